/- Quotients of 128 bits: digit by digit, and bit by bit. No conditions. -/
import Derived.Test.YtbipjlehhlkghaaDoorQAH
namespace Go.Proofs.YtbipjlehhlkghaaDoor.Am
open Go
theorem c5c {y1 y0 u d q r B:Nat} (hq:q * y1 + r=u) (h:q * y0<=B * r + d):q * (y1 * B + y0)<=u * B + d:=by
 rw [Nat.mul_add,<-Nat.mul_assoc,<-hq,Nat.add_mul]
 have:r * B=B * r:=Nat.mul_comm ..
 omega
theorem c5d {y1 y0 u d q r B:Nat} (hq:q * y1 + r=u) (h:B * r + d < q * y0):u * B + d < q * (y1 * B + y0):=by
 rw [Nat.mul_add,<-Nat.mul_assoc,<-hq,Nat.add_mul]
 have:r * B=B * r:=Nat.mul_comm ..
 omega
structure a64 (y1 y0 u d Q q r:Nat):Prop where
 hq:q * y1 + r=u
 lo:Q<=q
 up:q<=4294967297
theorem a64.stop {y1 y0 u d Q q r:Nat} (hQ:Q=(u * 4294967296 + d) / (y1 * 4294967296 + y0)) (hy:0 < y1 * 4294967296 + y0) (h:a64 y1 y0 u d Q q r) (hc:q * y0<=4294967296 * r + d):q=Q:=by
 have h1:=c5c h.hq hc
 have h2:=(Nat.le_div_iff_mul_le hy).2 h1
 have:=h.lo
 omega
theorem a64.dec {y1 y0 u d Q q r:Nat} (hQ:Q=(u * 4294967296 + d) / (y1 * 4294967296 + y0)) (hy:0 < y1 * 4294967296 + y0) (hu:u < y1 * 4294967296 + y0) (hd:d < 4294967296) (h:a64 y1 y0 u d Q q r) (hc:4294967296<=q\/4294967296 * r + d < q * y0):1<=q/\a64 y1 y0 u d Q (q - 1) (r + y1):=by
 have hlt:Q < q:=by
  rcases hc with hc | hc
  ·have:Q < 4294967296:=by
    rw [hQ,Nat.div_lt_iff_lt_mul hy]
    have:(u + 1) * 4294967296<=(y1 * 4294967296 + y0) * 4294967296:=Nat.mul_le_mul_right _ hu
    have h2:4294967296 * (y1 * 4294967296 + y0)=(y1 * 4294967296 + y0) * 4294967296:=Nat.mul_comm ..
    omega
   omega
  ·have h1:=c5d h.hq hc
   rw [hQ]
   exact(Nat.div_lt_iff_lt_mul hy).2 h1
 refine⟨by omega,?_,by omega,by have:=h.up;omega⟩
 have h1:=h.hq
 obtain⟨k,rfl⟩:∃ k,q=k + 1:=⟨q - 1,by omega⟩
 rw [Nat.add_sub_cancel]
 rw [Nat.succ_mul] at h1
 omega
theorem a64.brk {y1 y0 u d Q q r:Nat} (hQ:Q=(u * 4294967296 + d) / (y1 * 4294967296 + y0)) (hy:0 < y1 * 4294967296 + y0) (h0:y0 < 4294967296) (h:a64 y1 y0 u d Q q r) (hq:q<=4294967296) (hr:4294967296<=r):q=Q:=by
 refine h.stop hQ hy ?_
 have h1:q * y0<=4294967296 * y0:=Nat.mul_le_mul_right _ hq
 omega
theorem c2p {y1 y0 u d Q:Nat} (hQ:Q=(u * 4294967296 + d) / (y1 * 4294967296 + y0)) (h1:2147483648<=y1) (h1':y1 < 4294967296) (h0:y0 < 4294967296) (hu:u < y1 * 4294967296 + y0) (hd:d < 4294967296):a64 y1 y0 u d Q (u / y1) (u % y1):=by
 have hy:0 < y1 * 4294967296 + y0:=by omega
 refine⟨Nat.div_add_mod' u y1,?_,?_⟩
 ·rw [hQ,Nat.le_div_iff_mul_le (by omega)]
  have h2:=Nat.div_mul_le_self (u * 4294967296 + d) (y1 * 4294967296 + y0)
  rw [Nat.mul_add,<-Nat.mul_assoc] at h2
  generalize (u * 4294967296 + d) / (y1 * 4294967296 + y0)=q at h2 ⊢
  generalize q * y1=m at h2 ⊢
  generalize q * y0=k at h2
  omega
 ·refine Nat.lt_succ_iff.1 ((Nat.div_lt_iff_lt_mul (by omega)).2 ?_)
  have:Nat.succ 4294967297 * y1=4294967298 * y1:=rfl
  omega
def b2g (y u d:Nat):Nat:=(u * 4294967296 + d) / y
theorem b29 {q y0:Nat} (hq:q < 4294967296) (h0:y0 < 4294967296):q * y0 < 18446744073709551616:=by
 have:q * y0<=4294967295 * 4294967295:=Nat.mul_le_mul (by omega) (by omega)
 omega
theorem c3w (a b:Nat):Int.tdiv (a:Int) (b:Int)=((a / b:Nat):Int):=rfl
theorem c5e (a b:Nat):(a:Int) / (b:Int)=((a / b:Nat):Int):=rfl
theorem b9A {q:Nat} (h:1<=q) (h2:q<=4294967297):A7 ((q:Int) - 1)=((q - 1:Nat):Int):=by rw [Q0] <;> omega
theorem c3x {s y1 y0 u d d2 q r Q:Nat} {p:Int × Int->Prop} (hQ:Q=b2g (y1 * 4294967296 + y0) u d) (h1:2147483648<=y1) (h1':y1 < 4294967296) (h0:y0 < 4294967296) (hu:u < y1 * 4294967296 + y0) (hd:d < 4294967296) (hg:a64 y1 y0 u d Q q r) (hr:r < 4294967296)
  (hp:Ok (H2 ((y1 * 4294967296 + y0:Nat):Int) (s:Int) (y1:Int) (y0:Int) (u:Int) (d:Int) (d2:Int) (Q:Int)) p) :
  Ok (X9 ((y1 * 4294967296 + y0:Nat):Int) (s:Int) (y1:Int) (y0:Int) (u:Int) (d:Int) (d2:Int) (q:Int) (r:Int)) p:=by
 have hy:0 < y1 * 4294967296 + y0:=by omega
 unfold X9
 refine a36 (fun k v=>∃ q r:Nat,v=(((y1 * 4294967296 + y0:Nat):Int),(s:Int),(y1:Int),(y0:Int),(u:Int),(d:Int),(d2:Int),(q:Int),(r:Int))/\a64 y1 y0 u d Q q r/\r < 4294967296/\k=q) ?_ (n:=q) ⟨q,r,rfl,hg,hr,rfl⟩ (by have:=hg.up;omega)
 rintro k v ⟨q,r,rfl,hg,hr,rfl⟩
 have hup:=hg.up
 have hdec:(4294967296<=k\/4294967296 * r + d < k * y0)->Ok (N7 ((y1 * 4294967296 + y0:Nat):Int) (s:Int) (y1:Int) (y0:Int) (u:Int) (d:Int) (d2:Int) (k:Int) (r:Int)) (Nxt p fun z=>∃ m,m < k/\∃ q r:Nat,z=(((y1 * 4294967296 + y0:Nat):Int),(s:Int),(y1:Int),(y0:Int),(u:Int),(d:Int),(d2:Int),(q:Int),(r:Int))/\a64 y1 y0 u d Q q r/\r < 4294967296/\m=q):=fun hc=>by
  obtain⟨hk,hg'⟩:=hg.dec hQ hy hu hd hc
  unfold N7
  rw [b97,P7 (m:=r + y1) (by omega),b9A hk hup,B7]
  refine⟨fun hb=>?_,fun hb=>?_⟩
  ·have hb:=of_decide_eq_true hb
   have e:=hg'.brk hQ hy h0 (by omega) (by omega)
   rw [C1,e]
   exact hp
  ·have hb:=of_decide_eq_false hb
   rw [A0,A8]
   exact⟨k - 1,by omega,k - 1,r + y1,rfl,hg',by omega,rfl⟩
 unfold a0f
 dsimp only
 rw [B7]
 refine⟨fun hc=>hdec (.inl (by have:=of_decide_eq_true hc;omega)),fun hc=>?_⟩
 have hc:=of_decide_eq_false hc
 have hk:k < 4294967296:=by omega
 have e1:A7 (4294967296 * (r:Int))=((4294967296 * r:Nat):Int):=by rw [Q0] <;> omega
 rw [e1,b97,P7 (m:=4294967296 * r + d) (by omega),b96,P7 (b29 hk h0),B7]
 refine⟨fun hc2=>hdec (.inr (by have:=of_decide_eq_true hc2;omega)),fun hc2=>?_⟩
 have hc2:=of_decide_eq_false hc2
 have e:=hg.stop hQ hy (by omega)
 rw [C1,e]
 exact hp
theorem c3y {s y1 y0 u d Q1 q r Q:Nat} {p:Int × Int->Prop} (hQ:Q=b2g (y1 * 4294967296 + y0) u d) (h1:2147483648<=y1) (h1':y1 < 4294967296) (h0:y0 < 4294967296) (hu:u < y1 * 4294967296 + y0) (hd:d < 4294967296) (hg:a64 y1 y0 u d Q q r) (hr:r < 4294967296)
  (hp:Ok (N5 ((y1 * 4294967296 + y0:Nat):Int) (s:Int) (d:Int) (Q1:Int) (u:Int) (Q:Int)) p) :
  Ok (X8 ((y1 * 4294967296 + y0:Nat):Int) (s:Int) (y1:Int) (y0:Int) (d:Int) (Q1:Int) (r:Int) (u:Int) (q:Int)) p:=by
 have hy:0 < y1 * 4294967296 + y0:=by omega
 unfold X8
 refine a36 (fun k v=>∃ q r:Nat,v=(((y1 * 4294967296 + y0:Nat):Int),(s:Int),(y1:Int),(y0:Int),(d:Int),(Q1:Int),(r:Int),(u:Int),(q:Int))/\a64 y1 y0 u d Q q r/\r < 4294967296/\k=q) ?_ (n:=q) ⟨q,r,rfl,hg,hr,rfl⟩ (by have:=hg.up;omega)
 rintro k v ⟨q,r,rfl,hg,hr,rfl⟩
 have hup:=hg.up
 have hdec:(4294967296<=k\/4294967296 * r + d < k * y0)->Ok (N6 ((y1 * 4294967296 + y0:Nat):Int) (s:Int) (y1:Int) (y0:Int) (d:Int) (Q1:Int) (r:Int) (u:Int) (k:Int)) (Nxt p fun z=>∃ m,m < k/\∃ q r:Nat,z=(((y1 * 4294967296 + y0:Nat):Int),(s:Int),(y1:Int),(y0:Int),(d:Int),(Q1:Int),(r:Int),(u:Int),(q:Int))/\a64 y1 y0 u d Q q r/\r < 4294967296/\m=q):=fun hc=>by
  obtain⟨hk,hg'⟩:=hg.dec hQ hy hu hd hc
  unfold N6
  rw [b97,P7 (m:=r + y1) (by omega),b9A hk hup,B7]
  refine⟨fun hb=>?_,fun hb=>?_⟩
  ·have hb:=of_decide_eq_true hb
   have e:=hg'.brk hQ hy h0 (by omega) (by omega)
   rw [C1,e]
   exact hp
  ·have hb:=of_decide_eq_false hb
   rw [A0,A8]
   exact⟨k - 1,by omega,k - 1,r + y1,rfl,hg',by omega,rfl⟩
 unfold a0e
 dsimp only
 rw [B7]
 refine⟨fun hc=>hdec (.inl (by have:=of_decide_eq_true hc;omega)),fun hc=>?_⟩
 have hc:=of_decide_eq_false hc
 have hk:k < 4294967296:=by omega
 have e1:A7 (4294967296 * (r:Int))=((4294967296 * r:Nat):Int):=by rw [Q0] <;> omega
 rw [e1,b97,P7 (m:=4294967296 * r + d) (by omega),b96,P7 (b29 hk h0),B7]
 refine⟨fun hc2=>hdec (.inr (by have:=of_decide_eq_true hc2;omega)),fun hc2=>?_⟩
 have hc2:=of_decide_eq_false hc2
 have e:=hg.stop hQ hy (by omega)
 rw [C1,e]
 exact hp
theorem b9B {y u d:Nat} (hu:u < y) (hd:d < 4294967296):b2g y u d < 4294967296:=by
 unfold b2g
 rw [Nat.div_lt_iff_lt_mul (by omega)]
 have:(u + 1) * 4294967296<=y * 4294967296:=Nat.mul_le_mul_right _ hu
 have h2:4294967296 * y=y * 4294967296:=Nat.mul_comm ..
 omega
theorem b67 {y u d1 d0:Nat} (hy:0 < y):b2g y u d1 * 4294967296 + b2g y ((u * 4294967296 + d1) % y) d0=(u * 18446744073709551616 + (d1 * 4294967296 + d0)) / y:=by
 unfold b2g
 have h:=Nat.div_add_mod' (u * 4294967296 + d1) y
 have e:u * 18446744073709551616 + (d1 * 4294967296 + d0)=((u * 4294967296 + d1) % y * 4294967296 + d0) + ((u * 4294967296 + d1) / y * 4294967296) * y:=by
  have h2:(u * 4294967296 + d1) / y * 4294967296 * y=((u * 4294967296 + d1) / y * y) * 4294967296:=Nat.mul_right_comm ..
  rw [h2]
  omega
 rw [e,Nat.add_mul_div_right _ _ hy,Nat.add_comm]
theorem c5f {s y y1 y0 u d d2 Q1 U:Nat} (hs:s<=64) (hy:y=y1 * 4294967296 + y0) (h1:2147483648<=y1) (h1':y1 < 4294967296) (h0:y0 < 4294967296) (hd2:d2 < 4294967296) (hU:U < y) (hP:Q1 * y + U=u * 4294967296 + d) (hQ1:Q1 < 4294967296) :
  Ok (H2 (y:Int) (s:Int) (y1:Int) (y0:Int) (u:Int) (d:Int) (d2:Int) (Q1:Int)) fun r=>r.1=((Q1 * 4294967296 + b2g y U d2:Nat):Int):=by
 have hq2:=b9B hU hd2
 have eu2:A7 (A7 (A7 ((u:Int) * 4294967296) + (d:Int)) - A7 ((Q1:Int) * (y:Int)))=(U:Int):=by
  rw [b96]
  have hy64:y < 18446744073709551616:=by omega
  clear hy hq2
  generalize Q1 * y=P at hP ⊢
  simp only [A7,IntKind.wrap_u64]
  omega
 clear hP
 have hU':U < y1 * 4294967296 + y0:=by rw [<-hy];exact hU
 have hg:=c2p (Q:=b2g y U d2) (by unfold b2g;rw [hy]) h1 h1' h0 hU' hd2
 have hmod:U % y1 < y1:=Nat.mod_lt _ (by omega)
 have hup:=hg.up
 have eq0:A7 (Int.tdiv (U:Int) (y1:Int))=((U / y1:Nat):Int):=by
  rw [c3w,P7 (by omega)]
 have er0:A7 ((U:Int) - A7 (((U / y1:Nat):Int) * (y1:Int)))=((U % y1:Nat):Int):=by
  have h:=Nat.div_add_mod' U y1
  have hU64:U < 18446744073709551616:=by omega
  rw [b96]
  clear hq2 hg hup eq0 eu2 hU hU' hy
  generalize U / y1 * y1=P at h ⊢
  generalize U % y1=R at h ⊢
  simp only [A7,IntKind.wrap_u64]
  omega
 unfold H2
 rw [decide_eq_false (by omega),Bool.not_false,E5,eu2,eq0,er0]
 have hfin:A7 (A7 ((Q1:Int) * 4294967296) + ((b2g y U d2:Nat):Int))=((Q1 * 4294967296 + b2g y U d2:Nat):Int):=by
  generalize b2g y U d2=Q2 at hq2 ⊢
  rw [Q0 (n:=(Q1:Int) * 4294967296) (by omega) (by omega),Q0 (by omega) (by omega)]
  omega
 have hlt:U % y1 < 4294967296:=by omega
 clear eu2 eq0 er0 hup hmod
 generalize U / y1=q0 at hg ⊢
 generalize U % y1=r0 at hg hlt ⊢
 subst hy
 refine c3y rfl h1 h1' h0 hU' hd2 hg hlt ?_
 unfold N5
 rw [decide_eq_true (by omega),E5,A0]
 exact hfin
theorem c6q {s y1 y0 u d d2:Nat} (hs:s<=64) (h1:2147483648<=y1) (h1':y1 < 4294967296) (h0:y0 < 4294967296) (hu:u < y1 * 4294967296 + y0) (hd:d < 4294967296) (hd2:d2 < 4294967296) :
  Ok (H2 ((y1 * 4294967296 + y0:Nat):Int) (s:Int) (y1:Int) (y0:Int) (u:Int) (d:Int) (d2:Int) ((b2g (y1 * 4294967296 + y0) u d:Nat):Int)) fun r=>r.1=(((u * 18446744073709551616 + (d * 4294967296 + d2)) / (y1 * 4294967296 + y0):Nat):Int):=by
 have hy0:0 < y1 * 4294967296 + y0:=by omega
 have htd:=b67 (y:=y1 * 4294967296 + y0) (u:=u) (d1:=d) (d0:=d2) hy0
 refine(c5f (Q1:=b2g (y1 * 4294967296 + y0) u d) hs rfl h1 h1' h0 hd2 (U:=(u * 4294967296 + d) % (y1 * 4294967296 + y0)) (Nat.mod_lt _ hy0) (by unfold b2g;exact Nat.div_add_mod' _ _) (b9B hu hd)).mono fun r hr=>?_
 rw [hr,htd]
theorem b68 {hi lo y:Nat} (hh:hi < y) (hlo:lo < 18446744073709551616) (hy:y < 18446744073709551616):Ok (Z4 (hi:Int) (lo:Int) (y:Int)) fun r=>r.1=(((hi * 18446744073709551616 + lo) / y:Nat):Int):=by
 unfold Z4
 rw [decide_eq_false (by omega),C8,decide_eq_false (by omega),C8]
 by_cases h0:hi=0
 ·subst h0
  rw [decide_eq_true (by omega),D6,Bool.not_false,E5,E5,A0]
  dsimp only
  have:=Nat.div_le_self lo y
  rw [c3w,P7 (by omega),Nat.zero_mul,Nat.zero_add]
 rw [decide_eq_false (by omega),C8]
 obtain⟨t,e,b1,b2,b3⟩:=c5a (n:=y) (by omega) hy
 have ht:t<=64:=by
  rcases Nat.lt_or_ge 64 t with h | h
  ·have:2 ^ 64<=2 ^ (t - 1):=Nat.pow_le_pow_right (by omega) (by omega)
   omega
  ·exact h
 obtain⟨s,hs⟩:∃ s,s=64 - t:=⟨_,rfl⟩
 have hr1:A7 ((64 - t:Nat):Int)=(s:Int):=by rw [P7 (by omega),hs]
 have elz:J7 (y:Int)=some ((64 - t:Nat):Int):=by
  unfold J7
  rw [e,Option.bind_some,D9 (by omega) (by omega)]
  congr 1
  omega
 have hp2:(2:Int) ^ s=((2 ^ s:Nat):Int):=by rw [Int.natCast_pow];rfl
 have hps:0 < 2 ^ s:=Nat.pow_pos (by omega)
 have hn1:9223372036854775808<=y * 2 ^ s:=by
  have h1:2 ^ (t - 1) * 2 ^ s<=y * 2 ^ s:=Nat.mul_le_mul_right _ b1
  rw [<-Nat.pow_add,show t - 1 + s=63 by omega] at h1
  exact h1
 have hn2:y * 2 ^ s < 18446744073709551616:=by
  have h1:y * 2 ^ s < 2 ^ t * 2 ^ s:=Nat.mul_lt_mul_of_pos_right b2 hps
  rw [<-Nat.pow_add,show t + s=64 by omega] at h1
  exact h1
 have hhi:hi * 2 ^ s + 2 ^ s<=y * 2 ^ s:=by
  have h1:(hi + 1) * 2 ^ s<=y * 2 ^ s:=Nat.mul_le_mul_right _ hh
  rwa [Nat.succ_mul] at h1
 have hlow:lo / 2 ^ (64 - s) < 2 ^ s:=by
  refine Nat.div_lt_of_lt_mul ?_
  rw [<-Nat.pow_add,show 64 - s + s=64 by omega]
  exact hlo
 have hlo2:lo * 2 ^ s=lo / 2 ^ (64 - s) * 18446744073709551616 + lo * 2 ^ s % 18446744073709551616:=by
  have h1:lo * 2 ^ s / 18446744073709551616=lo / 2 ^ (64 - s):=by
   have h2:(18446744073709551616:Nat)=2 ^ (64 - s) * 2 ^ s:=by rw [<-Nat.pow_add,show 64 - s + s=64 by omega]
   rw [h2,Nat.mul_div_mul_right _ _ hps]
  have h3:=Nat.div_add_mod' (lo * 2 ^ s) 18446744073709551616
  omega
 have hmin1:min s 64=s:=by omega
 have hmin2:min (64 - s) 64=64 - s:=by omega
 have hsub:A7 (64 - (s:Int))=((64 - s:Nat):Int):=by rw [Q0] <;> omega
 have hp3:(2:Int) ^ (64 - s)=((2 ^ (64 - s):Nat):Int):=by rw [Int.natCast_pow];rfl
 rw [elz,Option.bind_some,hr1,decide_eq_true (by omega),E5,E5,hsub,decide_eq_true (by omega),E5,E5]
 simp only [Int.toNat_natCast,hmin1,hmin2,hp2,hp3,b96]
 rw [P7 hn2,P7 (m:=hi * 2 ^ s) (by omega),b9y (lo * 2 ^ s),c5e]
 have hor:bits .or .u64 ((hi * 2 ^ s:Nat):Int) ((lo / 2 ^ (64 - s):Nat):Int)=((hi * 2 ^ s + lo / 2 ^ (64 - s):Nat):Int):=by
  have:=b51 (a:=hi) hlow (by rw [Nat.mul_comm];omega)
  rwa [Nat.mul_comm (2 ^ s) hi] at this
 rw [hor,a1q hn2,a1q (m:=lo * 2 ^ s % 18446744073709551616) (by omega),b1S,b1S]
 have hQ:(hi * 18446744073709551616 + lo) / y=((hi * 2 ^ s + lo / 2 ^ (64 - s)) * 18446744073709551616 + (lo * 2 ^ s % 18446744073709551616 / 4294967296 * 4294967296 + lo * 2 ^ s % 18446744073709551616 % 4294967296)) / (y * 2 ^ s):=by
  have e1:(hi * 2 ^ s + lo / 2 ^ (64 - s)) * 18446744073709551616 + (lo * 2 ^ s % 18446744073709551616 / 4294967296 * 4294967296 + lo * 2 ^ s % 18446744073709551616 % 4294967296)=(hi * 18446744073709551616 + lo) * 2 ^ s:=by
   rw [Nat.div_add_mod',Nat.add_mul (hi * 18446744073709551616),Nat.mul_right_comm hi]
   omega
  rw [e1,Nat.mul_div_mul_right _ _ hps]
 rw [hQ]
 have hu:hi * 2 ^ s + lo / 2 ^ (64 - s) < y * 2 ^ s:=by omega
 have hd1:lo * 2 ^ s % 18446744073709551616 / 4294967296 < 4294967296:=by omega
 have hd2:lo * 2 ^ s % 18446744073709551616 % 4294967296 < 4294967296:=by omega
 generalize hi * 2 ^ s + lo / 2 ^ (64 - s)=u at hu ⊢
 generalize lo * 2 ^ s % 18446744073709551616 / 4294967296=d1 at hd1 ⊢
 generalize lo * 2 ^ s % 18446744073709551616 % 4294967296=d2 at hd2 ⊢
 generalize y * 2 ^ s=Y at hn1 hn2 hu ⊢
 obtain⟨y1,hy1⟩:∃ y1,y1=Y / 4294967296:=⟨_,rfl⟩
 obtain⟨y0,hy0⟩:∃ y0,y0=Y % 4294967296:=⟨_,rfl⟩
 have hY:Y=y1 * 4294967296 + y0:=by omega
 have k1:2147483648<=y1:=by omega
 have k2:y1 < 4294967296:=by omega
 have k3:y0 < 4294967296:=by omega
 rw [<-hy1,<-hy0]
 clear hy1 hy0
 subst hY
 have hg:=c2p (Q:=b2g (y1 * 4294967296 + y0) u d1) (by unfold b2g;exact Eq.refl _) k1 k2 k3 hu hd1
 have hup:=hg.up
 have hmod:u % y1 < y1:=Nat.mod_lt _ (by omega)
 have eq0:A7 (Int.tdiv (u:Int) (y1:Int))=((u / y1:Nat):Int):=by
  rw [c3w,P7 (by omega)]
 have er0:A7 ((u:Int) - A7 (((u / y1:Nat):Int) * (y1:Int)))=((u % y1:Nat):Int):=by
  have h:=Nat.div_add_mod' u y1
  rw [b96]
  generalize u / y1 * y1=P at h ⊢
  simp only [A7,IntKind.wrap_u64]
  omega
 rw [decide_eq_false (by omega),Bool.not_false,E5,eq0,er0]
 exact c3x rfl k1 k2 k3 hu hd1 hg (by omega) (c6q (by omega) k1 k2 k3 hu hd1 hd2)
def mdF (x y c:Nat):Int × Bool:=if c=0 then(0,false) else if c<=x * y / 18446744073709551616 then(0,false) else(((x * y / c:Nat):Int),true)
theorem b4H {x y c:Nat} (hx:x < 18446744073709551616) (hy:y < 18446744073709551616) (hc:c < 18446744073709551616):a1p (x:Int) (y:Int) (c:Int)=some (mdF x y c):=by
 rw [<-M9]
 unfold a1p mdF
 rw [b0M hx hy,Option.bind_some]
 dsimp only
 by_cases h:c<=x * y / 18446744073709551616
 ·rw [decide_eq_true (by omega),D6,A0]
  split <;> simp
 ·rw [decide_eq_false (by omega),C8,B6]
  have h1:=Nat.div_add_mod' (x * y) 18446744073709551616
  refine(b68 (hi:=x * y / 18446744073709551616) (lo:=x * y % 18446744073709551616) (y:=c) (by omega) (by omega) hc).mono fun r hr=>?_
  rw [h1] at hr
  rw [A0,if_neg (by omega),if_neg h,hr]
theorem c1s (lo:Nat) {k:Nat} (hk:k < 64):lo / 2 ^ (63 - k)=2 * (lo / 2 ^ (64 - k)) + lo / 2 ^ (63 - k) % 2:=by
 have h:lo / 2 ^ (64 - k)=lo / 2 ^ (63 - k) / 2:=by
  rw [Nat.div_div_eq_div_mul,<-Nat.pow_succ,show(63 - k).succ=64 - k by omega]
 rw [h];omega
theorem b69 {x y c:Nat} (hx:x < 18446744073709551616) (hy:y < 18446744073709551616) (hc:c < 18446744073709551616):S9 (x:Int) (y:Int) (c:Int)=some (mdF x y c):=by
 rw [<-M9]
 unfold S9 mdF
 rw [b4G hx hy,Option.bind_some]
 dsimp only
 by_cases h0:c=0
 ·subst h0
  rw [decide_eq_true (by omega),D6,if_pos rfl,A0]
 rw [decide_eq_false (by omega),C8,if_neg h0]
 by_cases h:c<=x * y / 18446744073709551616
 ·rw [decide_eq_true (by omega),D6,if_pos h,A0]
 rw [decide_eq_false (by omega),C8,if_neg h]
 obtain⟨hi,hhi⟩:∃ hi,hi=x * y / 18446744073709551616:=⟨_,rfl⟩
 obtain⟨lo,hlo⟩:∃ lo,lo=x * y % 18446744073709551616:=⟨_,rfl⟩
 have hN:x * y=hi * 18446744073709551616 + lo:=by omega
 have hlo2:lo < 18446744073709551616:=by omega
 have hhi2:hi < c:=by omega
 rw [<-hhi,<-hlo,hN]
 clear hhi hlo hN h
 unfold a0H
 refine a36 (fun m v=>∃ k rest out:Nat,v=((c:Int),(rest:Int),(lo:Int),(out:Int),63 - (k:Int))/\k<=64/\m=64 - k/\out * c + rest=hi * 2 ^ k + lo / 2 ^ (64 - k)/\rest < c/\out < 2 ^ k) ?_ (n:=64) ⟨0,hi,0,rfl,by omega,rfl,by rw [Nat.zero_mul,Nat.zero_add,Nat.pow_zero,Nat.mul_one,Nat.sub_zero,Nat.div_eq_of_lt hlo2];rfl,hhi2,by omega⟩ (by omega)
 rintro m v ⟨k,rest,out,rfl,hk,rfl,hinv,hr,ho⟩
 unfold V4
 dsimp only
 rw [B7]
 refine⟨fun hcnd=>?_,fun hcnd=>?_⟩
 ·have hcnd:=of_decide_eq_true hcnd
  have hk':k < 64:=by omega
  have hnext:=c1s lo hk'
  obtain⟨b,hb⟩:∃ b,b=lo / 2 ^ (63 - k) % 2:=⟨_,rfl⟩
  have hb2:b < 2:=by omega
  have hpk:2 ^ (k + 1)=2 ^ k * 2:=Nat.pow_succ ..
  have hpk2:2 ^ k<=2 ^ 63:=Nat.pow_le_pow_right (by omega) (by omega)
  have hV:hi * 2 ^ (k + 1) + lo / 2 ^ (64 - (k + 1))=2 * (out * c + rest) + b:=by
   rw [show 64 - (k + 1)=63 - k by omega,hnext,hinv,hpk,<-hb,<-Nat.mul_assoc];omega
  have e1:min (Int.toNat (63 - (k:Int))) 64=63 - k:=by omega
  have e2:(lo:Int) / 2 ^ (63 - k)=((lo / 2 ^ (63 - k):Nat):Int):=by
   rw [show(2:Int) ^ (63 - k)=((2 ^ (63 - k):Nat):Int) by rw [Int.natCast_pow];rfl,c5e]
  have hle:lo / 2 ^ (63 - k) < 18446744073709551616:=Nat.lt_of_le_of_lt (Nat.div_le_self _ _) hlo2
  have e3:A7 ((rest:Int) * 2 ^ 1)=((2 ^ 1 * (rest % 9223372036854775808):Nat):Int):=by
   rw [A7,IntKind.wrap_u64];omega
  have e4:A7 ((out:Int) * 2 ^ 1)=((2 ^ 1 * out:Nat):Int):=by
   rw [Q0] <;> omega
  have e5:B0 (63 - (k:Int) - 1)=63 - ((k + 1:Nat):Int):=by rw [D9] <;> omega
  have ho1:bits .or .u64 ((2 ^ 1 * (rest % 9223372036854775808):Nat):Int) ((b:Nat):Int)=((2 ^ 1 * (rest % 9223372036854775808) + b:Nat):Int):=b51 (by omega) (by omega)
  have ho2:bits .or .u64 ((2 ^ 1 * out:Nat):Int) 1=((2 ^ 1 * out + 1:Nat):Int):=b51 (b:=1) (by omega) (by omega)
  rw [decide_eq_true hcnd,E5,e1,e2,c3u hle,<-hb,e3,ho1,e4]
  have hbig:out * c + out * c + 2 * rest + b=2 * (out * c + rest) + b:=by omega
  have htake:c<=2 * rest + b->A7 (((2 ^ 1 * (rest % 9223372036854775808) + b:Nat):Int) - (c:Int))=((2 * rest + b - c:Nat):Int):=fun hcc=>by
   rw [A7,IntKind.wrap_u64];omega
  have hyes:c<=2 * rest + b->Ok (G9 (c:Int) ((2 ^ 1 * (rest % 9223372036854775808) + b:Nat):Int) (lo:Int) ((2 ^ 1 * out:Nat):Int) (63 - (k:Int)) true) (Nxt (fun r=>r=((((hi * 18446744073709551616 + lo) / c:Nat):Int),true)) fun z=>∃ m,m < 64 - k/\∃ k rest out:Nat,z=((c:Int),(rest:Int),(lo:Int),(out:Int),63 - (k:Int))/\k<=64/\m=64 - k/\out * c + rest=hi * 2 ^ k + lo / 2 ^ (64 - k)/\rest < c/\out < 2 ^ k):=fun hcc=>by
   unfold G9
   rw [D6,htake hcc,ho2,e5,A0,A8]
   refine⟨64 - (k + 1),by omega,k + 1,2 * rest + b - c,2 ^ 1 * out + 1,rfl,by omega,rfl,?_,by omega,by omega⟩
   have hoc:(2 ^ 1 * out + 1) * c=out * c + out * c + c:=by
    rw [Nat.succ_mul,show 2 ^ 1 * out=out + out by omega,Nat.add_mul]
   rw [hV,hoc];omega
  rw [B7]
  refine⟨fun hcar=>?_,fun hcar=>?_⟩
  ·have hcar:=of_decide_eq_true hcar
   have:9223372036854775808<=rest:=by omega
   exact hyes (by omega)
  ·have hcar:=of_decide_eq_false hcar
   have hsm:rest < 9223372036854775808:=by omega
   have hmod:rest % 9223372036854775808=rest:=Nat.mod_eq_of_lt hsm
   by_cases hcc:c<=2 * rest + b
   ·rw [decide_eq_true (by rw [hmod];omega)]
    exact hyes hcc
   ·rw [decide_eq_false (by rw [hmod];omega)]
    unfold G9
    rw [C8,e5,A0,A8,hmod]
    refine⟨64 - (k + 1),by omega,k + 1,2 ^ 1 * rest + b,2 ^ 1 * out,rfl,by omega,rfl,?_,by omega,by omega⟩
    have hoc:(2 ^ 1 * out) * c=out * c + out * c:=by
     rw [show 2 ^ 1 * out=out + out by omega,Nat.add_mul]
    rw [hV,hoc];omega
 ·have hcnd:=of_decide_eq_false hcnd
  have e:k=64:=by omega
  subst e
  rw [A0,A6]
  have hd:(hi * 18446744073709551616 + lo) / c=out:=by
   have h1:hi * 18446744073709551616 + lo=rest + out * c:=by
    rw [Nat.sub_self,Nat.pow_zero,Nat.div_one] at hinv
    have:(2:Nat) ^ 64=18446744073709551616:=rfl
    rw [this] at hinv
    omega
   rw [h1,Nat.add_mul_div_right _ _ (by omega),Nat.div_eq_of_lt hr,Nat.zero_add]
  rw [hd]
theorem c1t (x y c:Nat):mdF x y c=mdF y x c:=by unfold mdF;rw [Nat.mul_comm]
def b9C (fee gas:Nat):Int:=if gas=0 then 0 else if(mdF fee 1000 gas).2=true then(mdF fee 1000 gas).1 else 18446744073709551615
theorem b9D {fee gas:Nat} (h1:fee < 18446744073709551616) (h2:gas < 18446744073709551616):a0n (fee:Int) (gas:Int)=some (b9C fee gas):=by
 unfold a0n b9C
 by_cases h:gas=0
 ·subst h;rw [decide_eq_true (by omega),D6,if_pos rfl]
 ·have e:=b4H (x:=1000) (y:=fee) (c:=gas) (by omega) h1 h2
  rw [decide_eq_false (by omega),C8,if_neg h,show(1000:Int)=((1000:Nat):Int) from rfl,e,Option.bind_some,c1t]
  cases (mdF fee 1000 gas).2 with
  | true=>rw [if_pos rfl];rfl
  | false=>rw [if_neg (by decide)];rfl
theorem c1u {fee gas:Nat} (h1:fee < 18446744073709551616) (h2:gas < 18446744073709551616):J3 (fee:Int) (gas:Int)=some (b9C fee gas):=by
 unfold J3 b9C
 by_cases h:gas=0
 ·subst h;rw [decide_eq_true (by omega),D6,if_pos rfl]
 ·have e:=b69 (x:=fee) (y:=1000) (c:=gas) h1 (by omega) h2
  rw [decide_eq_false (by omega),C8,if_neg h,show(1000:Int)=((1000:Nat):Int) from rfl,e,Option.bind_some]
  cases (mdF fee 1000 gas).2 with
  | true=>rw [if_pos rfl];rfl
  | false=>rw [if_neg (by decide)];rfl
end Go.Proofs.YtbipjlehhlkghaaDoor.Am
