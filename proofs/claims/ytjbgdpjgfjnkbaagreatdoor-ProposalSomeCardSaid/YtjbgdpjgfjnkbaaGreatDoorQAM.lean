/- Quotients of 128 bits: digit by digit, and bit by bit. No conditions. -/
import Derived.Test.YtjbgdpjgfjnkbaaGreatDoorQAL
namespace Go.Proofs.YtjbgdpjgfjnkbaaGreatDoor.Am
open Go
theorem Zi {y1 y0 u d q r B:Nat} (hq:q * y1 + r=u) (h:q * y0<=B * r + d):q * (y1 * B + y0)<=u * B + d:=by
 rw [Nat.mul_add,<-a5h,<-hq,a4K];have:r * B=B * r:=a4B ..;omega
theorem Zj {y1 y0 u d q r B:Nat} (hq:q * y1 + r=u) (h:B * r + d < q * y0):u * B + d < q * (y1 * B + y0):=by
 rw [Nat.mul_add,<-a5h,<-hq,a4K];have:r * B=B * r:=a4B ..;omega
structure vq (y1 y0 u d Q q r:Nat):Prop where
 hq:q * y1 + r=u
 lo:Q<=q
 up:q<=4294967297
theorem vq.stop {y1 y0 u d Q q r:Nat} (hQ:Q=(u * 4294967296 + d) / (y1 * 4294967296 + y0)) (hy:0 < y1 * 4294967296 + y0) (h:vq y1 y0 u d Q q r) (hc:q * y0<=4294967296 * r + d):q=Q:=by
 have h1:=Zi h.hq hc;have h2:=(a48 hy).2 h1;have:=h.lo;omega
theorem vq.dec {y1 y0 u d Q q r:Nat} (hQ:Q=(u * 4294967296 + d) / (y1 * 4294967296 + y0)) (hy:0 < y1 * 4294967296 + y0) (hu:u < y1 * 4294967296 + y0) (hd:d < 4294967296) (h:vq y1 y0 u d Q q r) (hc:4294967296<=q\/4294967296 * r + d < q * y0):1<=q/\vq y1 y0 u d Q (q - 1) (r + y1):=by
 have hlt:Q < q:=by
  rcases hc with hc | hc
  ·have:Q < 4294967296:=by
    rw [hQ,a4l hy];have:(u + 1) * 4294967296<=(y1 * 4294967296 + y0) * 4294967296:=a3v _ hu;have h2:4294967296 * (y1 * 4294967296 + y0)=(y1 * 4294967296 + y0) * 4294967296:=a4B ..;omega
   omega
  ·have h1:=Zj h.hq hc;rw [hQ];exact(a4l hy).2 h1
 refine⟨by omega,?_,by omega,by have:=h.up;omega⟩;have h1:=h.hq;obtain⟨k,rfl⟩:∃ k,q=k + 1:=⟨q - 1,by omega⟩;rw [a5r];rw [a3D] at h1;omega
theorem vq.brk {y1 y0 u d Q q r:Nat} (hQ:Q=(u * 4294967296 + d) / (y1 * 4294967296 + y0)) (hy:0 < y1 * 4294967296 + y0) (h0:y0 < 4294967296) (h:vq y1 y0 u d Q q r) (hq:q<=4294967296) (hr:4294967296<=r):q=Q:=by
 refine h.stop hQ hy ?_;have h1:q * y0<=4294967296 * y0:=a3v _ hq;omega
theorem Uf {y1 y0 u d Q:Nat} (hQ:Q=(u * 4294967296 + d) / (y1 * 4294967296 + y0)) (h1:2147483648<=y1) (h1':y1 < 4294967296) (h0:y0 < 4294967296) (hu:u < y1 * 4294967296 + y0) (hd:d < 4294967296):vq y1 y0 u d Q (u / y1) (u % y1):=by
 have hy:0 < y1 * 4294967296 + y0:=by omega
 refine⟨a36 u y1,?_,?_⟩
 ·rw [hQ,a48 (by omega)];have h2:=Nat.div_mul_le_self (u * 4294967296 + d) (y1 * 4294967296 + y0);rw [Nat.mul_add,<-a5h] at h2;generalize (u * 4294967296 + d) / (y1 * 4294967296 + y0)=q at h2 ⊢;generalize q * y1=m at h2 ⊢;generalize q * y0=k at h2;omega
 ·refine Nat.lt_succ_iff.1 ((a4l (by omega)).2 ?_);have:Nat.succ 4294967297 * y1=4294967298 * y1:=rfl;omega
def CD (y u d:Nat):Nat:=(u * 4294967296 + d) / y
theorem DU {q y0:Nat} (hq:q < 4294967296) (h0:y0 < 4294967296):q * y0 < 18446744073709551616:=by
 have:q * y0<=4294967295 * 4294967295:=a42 (by omega) (by omega);omega
theorem VQ (a b:Nat):Int.tdiv (a:Int) (b:Int)=((a / b:Nat):Int):=rfl
theorem Zk (a b:Nat):(a:Int) / (b:Int)=((a / b:Nat):Int):=rfl
theorem Oo {q:Nat} (h:1<=q) (h2:q<=4294967297):D7 ((q:Int) - 1)=((q - 1:Nat):Int):=by rw [J4] <;> omega
theorem VR {s y1 y0 u d d2 q r Q:Nat} {p:Int × Int->Prop} (hQ:Q=CD (y1 * 4294967296 + y0) u d) (h1:2147483648<=y1) (h1':y1 < 4294967296) (h0:y0 < 4294967296) (hu:u < y1 * 4294967296 + y0) (hd:d < 4294967296) (hg:vq y1 y0 u d Q q r) (hr:r < 4294967296)
  (hp:Ok (S3 ((y1 * 4294967296 + y0:Nat):Int) (s:Int) (y1:Int) (y0:Int) (u:Int) (d:Int) (d2:Int) (Q:Int)) p) :
  Ok (iP ((y1 * 4294967296 + y0:Nat):Int) (s:Int) (y1:Int) (y0:Int) (u:Int) (d:Int) (d2:Int) (q:Int) (r:Int)) p:=by
 have hy:0 < y1 * 4294967296 + y0:=by omega
 unfold iP;refine T2 (λk v=>∃ q r:Nat,v=(((y1 * 4294967296 + y0:Nat):Int),(s:Int),(y1:Int),(y0:Int),(u:Int),(d:Int),(d2:Int),(q:Int),(r:Int))/\vq y1 y0 u d Q q r/\r < 4294967296/\k=q) ?_ (n:=q) ⟨q,r,rfl,hg,hr,rfl⟩ (by have:=hg.up;omega);rintro k v ⟨q,r,rfl,hg,hr,rfl⟩;have hup:=hg.up;have hdec:(4294967296<=k\/4294967296 * r + d < k * y0)->Ok (bT ((y1 * 4294967296 + y0:Nat):Int) (s:Int) (y1:Int) (y0:Int) (u:Int) (d:Int) (d2:Int) (k:Int) (r:Int)) (Nxt p λz=>∃ m,m < k/\∃ q r:Nat,z=(((y1 * 4294967296 + y0:Nat):Int),(s:Int),(y1:Int),(y0:Int),(u:Int),(d:Int),(d2:Int),(q:Int),(r:Int))/\vq y1 y0 u d Q q r/\r < 4294967296/\m=q):=λhc=>by
  obtain⟨hk,hg'⟩:=hg.dec hQ hy hu hd hc;unfold bT;rw [PO,dK (m:=r + y1) (by omega),Oo hk hup,A7];refine⟨λhb=>?_,λhb=>?_⟩
  ·have hb:=a23 hb;have e:=hg'.brk hQ hy h0 (by omega) (by omega);rw [C9,e];exact hp
  ·have hb:=a3k hb;rw [A4,B5];exact⟨k - 1,by omega,k - 1,r + y1,rfl,hg',by omega,rfl⟩
 unfold jF;dsimp only;rw [A7];refine⟨λhc=>hdec (.inl (by have:=a23 hc;omega)),λhc=>?_⟩;have hc:=a3k hc;have hk:k < 4294967296:=by omega
 have e1:D7 (4294967296 * (r:Int))=((4294967296 * r:Nat):Int):=by rw [J4] <;> omega
 rw [e1,PO,dK (m:=4294967296 * r + d) (by omega),PN,dK (DU hk h0),A7];refine⟨λhc2=>hdec (.inr (by have:=a23 hc2;omega)),λhc2=>?_⟩;have hc2:=a3k hc2;have e:=hg.stop hQ hy (by omega);rw [C9,e];exact hp
theorem VS {s y1 y0 u d Q1 q r Q:Nat} {p:Int × Int->Prop} (hQ:Q=CD (y1 * 4294967296 + y0) u d) (h1:2147483648<=y1) (h1':y1 < 4294967296) (h0:y0 < 4294967296) (hu:u < y1 * 4294967296 + y0) (hd:d < 4294967296) (hg:vq y1 y0 u d Q q r) (hr:r < 4294967296)
  (hp:Ok (bR ((y1 * 4294967296 + y0:Nat):Int) (s:Int) (d:Int) (Q1:Int) (u:Int) (Q:Int)) p) :
  Ok (iO ((y1 * 4294967296 + y0:Nat):Int) (s:Int) (y1:Int) (y0:Int) (d:Int) (Q1:Int) (r:Int) (u:Int) (q:Int)) p:=by
 have hy:0 < y1 * 4294967296 + y0:=by omega
 unfold iO;refine T2 (λk v=>∃ q r:Nat,v=(((y1 * 4294967296 + y0:Nat):Int),(s:Int),(y1:Int),(y0:Int),(d:Int),(Q1:Int),(r:Int),(u:Int),(q:Int))/\vq y1 y0 u d Q q r/\r < 4294967296/\k=q) ?_ (n:=q) ⟨q,r,rfl,hg,hr,rfl⟩ (by have:=hg.up;omega);rintro k v ⟨q,r,rfl,hg,hr,rfl⟩;have hup:=hg.up;have hdec:(4294967296<=k\/4294967296 * r + d < k * y0)->Ok (bS ((y1 * 4294967296 + y0:Nat):Int) (s:Int) (y1:Int) (y0:Int) (d:Int) (Q1:Int) (r:Int) (u:Int) (k:Int)) (Nxt p λz=>∃ m,m < k/\∃ q r:Nat,z=(((y1 * 4294967296 + y0:Nat):Int),(s:Int),(y1:Int),(y0:Int),(d:Int),(Q1:Int),(r:Int),(u:Int),(q:Int))/\vq y1 y0 u d Q q r/\r < 4294967296/\m=q):=λhc=>by
  obtain⟨hk,hg'⟩:=hg.dec hQ hy hu hd hc;unfold bS;rw [PO,dK (m:=r + y1) (by omega),Oo hk hup,A7];refine⟨λhb=>?_,λhb=>?_⟩
  ·have hb:=a23 hb;have e:=hg'.brk hQ hy h0 (by omega) (by omega);rw [C9,e];exact hp
  ·have hb:=a3k hb;rw [A4,B5];exact⟨k - 1,by omega,k - 1,r + y1,rfl,hg',by omega,rfl⟩
 unfold jE;dsimp only;rw [A7];refine⟨λhc=>hdec (.inl (by have:=a23 hc;omega)),λhc=>?_⟩;have hc:=a3k hc;have hk:k < 4294967296:=by omega
 have e1:D7 (4294967296 * (r:Int))=((4294967296 * r:Nat):Int):=by rw [J4] <;> omega
 rw [e1,PO,dK (m:=4294967296 * r + d) (by omega),PN,dK (DU hk h0),A7];refine⟨λhc2=>hdec (.inr (by have:=a23 hc2;omega)),λhc2=>?_⟩;have hc2:=a3k hc2;have e:=hg.stop hQ hy (by omega);rw [C9,e];exact hp
theorem Oq {y u d:Nat} (hu:u < y) (hd:d < 4294967296):CD y u d < 4294967296:=by
 unfold CD;rw [a4l (by omega)];have:(u + 1) * 4294967296<=y * 4294967296:=a3v _ hu;have h2:4294967296 * y=y * 4294967296:=a4B ..;omega
theorem KE {y u d1 d0:Nat} (hy:0 < y):CD y u d1 * 4294967296 + CD y ((u * 4294967296 + d1) % y) d0=(u * 18446744073709551616 + (d1 * 4294967296 + d0)) / y:=by
 unfold CD;have h:=a36 (u * 4294967296 + d1) y;have e:u * 18446744073709551616 + (d1 * 4294967296 + d0)=((u * 4294967296 + d1) % y * 4294967296 + d0) + ((u * 4294967296 + d1) / y * 4294967296) * y:=by
  have h2:(u * 4294967296 + d1) / y * 4294967296 * y=((u * 4294967296 + d1) / y * y) * 4294967296:=Nat.mul_right_comm ..;rw [h2];omega
 rw [e,Nat.add_mul_div_right _ _ hy,a3S]
theorem Zl {s y y1 y0 u d d2 Q1 U:Nat} (hs:s<=64) (hy:y=y1 * 4294967296 + y0) (h1:2147483648<=y1) (h1':y1 < 4294967296) (h0:y0 < 4294967296) (hd2:d2 < 4294967296) (hU:U < y) (hP:Q1 * y + U=u * 4294967296 + d) (hQ1:Q1 < 4294967296) :
  Ok (S3 (y:Int) (s:Int) (y1:Int) (y0:Int) (u:Int) (d:Int) (d2:Int) (Q1:Int)) λr=>r.1=((Q1 * 4294967296 + CD y U d2:Nat):Int):=by
 have hq2:=Oq hU hd2;have eu2:D7 (D7 (D7 ((u:Int) * 4294967296) + (d:Int)) - D7 ((Q1:Int) * (y:Int)))=(U:Int):=by
  rw [PN];have hy64:y < 18446744073709551616:=by omega
  clear hy hq2;generalize Q1 * y=P at hP ⊢;simp only [D7,IntKind.wrap_u64];omega
 clear hP;have hU':U < y1 * 4294967296 + y0:=by rw [<-hy];exact hU
 have hg:=Uf (Q:=CD y U d2) (by unfold CD;rw [hy]) h1 h1' h0 hU' hd2;have hmod:U % y1 < y1:=Nat.mod_lt _ (by omega);have hup:=hg.up;have eq0:D7 (Int.tdiv (U:Int) (y1:Int))=((U / y1:Nat):Int):=by
  rw [VQ,dK (by omega)]
 have er0:D7 ((U:Int) - D7 (((U / y1:Nat):Int) * (y1:Int)))=((U % y1:Nat):Int):=by
  have h:=a36 U y1;have hU64:U < 18446744073709551616:=by omega
  rw [PN];clear hq2 hg hup eq0 eu2 hU hU' hy;generalize U / y1 * y1=P at h ⊢;generalize U % y1=R at h ⊢;simp only [D7,IntKind.wrap_u64];omega
 unfold S3;rw [a2Y (by omega),a3r,C4,eu2,eq0,er0];have hfin:D7 (D7 ((Q1:Int) * 4294967296) + ((CD y U d2:Nat):Int))=((Q1 * 4294967296 + CD y U d2:Nat):Int):=by
  generalize CD y U d2=Q2 at hq2 ⊢;rw [J4 (n:=(Q1:Int) * 4294967296) (by omega) (by omega),J4 (by omega) (by omega)];omega
 have hlt:U % y1 < 4294967296:=by omega
 clear eu2 eq0 er0 hup hmod;generalize U / y1=q0 at hg ⊢;generalize U % y1=r0 at hg hlt ⊢;subst hy;refine VS rfl h1 h1' h0 hU' hd2 hg hlt ?_;unfold bR;rw [a2S (by omega),C4,A4];exact hfin
theorem a1g {s y1 y0 u d d2:Nat} (hs:s<=64) (h1:2147483648<=y1) (h1':y1 < 4294967296) (h0:y0 < 4294967296) (hu:u < y1 * 4294967296 + y0) (hd:d < 4294967296) (hd2:d2 < 4294967296) :
  Ok (S3 ((y1 * 4294967296 + y0:Nat):Int) (s:Int) (y1:Int) (y0:Int) (u:Int) (d:Int) (d2:Int) ((CD (y1 * 4294967296 + y0) u d:Nat):Int)) λr=>r.1=(((u * 18446744073709551616 + (d * 4294967296 + d2)) / (y1 * 4294967296 + y0):Nat):Int):=by
 have hy0:0 < y1 * 4294967296 + y0:=by omega
 have htd:=KE (y:=y1 * 4294967296 + y0) (u:=u) (d1:=d) (d0:=d2) hy0;refine(Zl (Q1:=CD (y1 * 4294967296 + y0) u d) hs rfl h1 h1' h0 hd2 (U:=(u * 4294967296 + d) % (y1 * 4294967296 + y0)) (Nat.mod_lt _ hy0) (by unfold CD;exact a36 _ _) (Oq hu hd)).mono λr hr=>?_;rw [hr,htd]
theorem KF {hi lo y:Nat} (hh:hi < y) (hlo:lo < 18446744073709551616) (hy:y < 18446744073709551616):Ok (jn (hi:Int) (lo:Int) (y:Int)) λr=>r.1=(((hi * 18446744073709551616 + lo) / y:Nat):Int):=by
 unfold jn;rw [a2Y (by omega),E3,a2Y (by omega),E3];by_cases h0:hi=0
 ·subst h0;rw [a2S (by omega),E8,a3r,C4,C4,A4];dsimp only;have:=Nat.div_le_self lo y;rw [VQ,dK (by omega),a4J,a3z]
 rw [a2Y (by omega),E3];obtain⟨t,e,b1,b2,b3⟩:=Zg (n:=y) (by omega) hy;have ht:t<=64:=by
  rcases a3O 64 t with h | h
  ·have:2 ^ 64<=2 ^ (t - 1):=a4P (by omega) (by omega);omega
  ·exact h
 obtain⟨s,hs⟩:∃ s,s=64 - t:=⟨_,rfl⟩;have hr1:D7 ((64 - t:Nat):Int)=(s:Int):=by rw [dK (by omega),hs]
 have elz:Y8 (y:Int)=some ((64 - t:Nat):Int):=by
  unfold Y8;rw [e,a2X,C8 (by omega) (by omega)];congr 1;omega
 have hp2:(2:Int) ^ s=((2 ^ s:Nat):Int):=by rw [a5i];rfl
 have hps:0 < 2 ^ s:=Nat.pow_pos (by omega);have hn1:9223372036854775808<=y * 2 ^ s:=by
  have h1:2 ^ (t - 1) * 2 ^ s<=y * 2 ^ s:=a3v _ b1;rw [<-a41,show t - 1 + s=63 by omega] at h1;exact h1
 have hn2:y * 2 ^ s < 18446744073709551616:=by
  have h1:y * 2 ^ s < 2 ^ t * 2 ^ s:=Nat.mul_lt_mul_of_pos_right b2 hps;rw [<-a41,show t + s=64 by omega] at h1;exact h1
 have hhi:hi * 2 ^ s + 2 ^ s<=y * 2 ^ s:=by
  have h1:(hi + 1) * 2 ^ s<=y * 2 ^ s:=a3v _ hh
  rwa [a3D] at h1
 have hlow:lo / 2 ^ (64 - s) < 2 ^ s:=by
  refine Nat.div_lt_of_lt_mul ?_;rw [<-a41,show 64 - s + s=64 by omega];exact hlo
 have hlo2:lo * 2 ^ s=lo / 2 ^ (64 - s) * 18446744073709551616 + lo * 2 ^ s % 18446744073709551616:=by
  have h1:lo * 2 ^ s / 18446744073709551616=lo / 2 ^ (64 - s):=by
   have h2:(18446744073709551616:Nat)=2 ^ (64 - s) * 2 ^ s:=by rw [<-a41,show 64 - s + s=64 by omega]
   rw [h2,Nat.mul_div_mul_right _ _ hps]
  have h3:=a36 (lo * 2 ^ s) 18446744073709551616;omega
 have hmin1:min s 64=s:=by omega
 have hmin2:min (64 - s) 64=64 - s:=by omega
 have hsub:D7 (64 - (s:Int))=((64 - s:Nat):Int):=by rw [J4] <;> omega
 have hp3:(2:Int) ^ (64 - s)=((2 ^ (64 - s):Nat):Int):=by rw [a5i];rfl
 rw [elz,a2X,hr1,a2S (by omega),C4,C4,hsub,a2S (by omega),C4,C4];simp only [a2T,hmin1,hmin2,hp2,hp3,PN];rw [dK hn2,dK (m:=hi * 2 ^ s) (by omega),Om (lo * 2 ^ s),Zk];have hor:bits .or .u64 ((hi * 2 ^ s:Nat):Int) ((lo / 2 ^ (64 - s):Nat):Int)=((hi * 2 ^ s + lo / 2 ^ (64 - s):Nat):Int):=by
  have:=IJ (a:=hi) hlow (by rw [a4B];omega)
  rwa [a4B (2 ^ s) hi] at this
 rw [hor,mC hn2,mC (m:=lo * 2 ^ s % 18446744073709551616) (by omega),Cn,Cn];have hQ:(hi * 18446744073709551616 + lo) / y=((hi * 2 ^ s + lo / 2 ^ (64 - s)) * 18446744073709551616 + (lo * 2 ^ s % 18446744073709551616 / 4294967296 * 4294967296 + lo * 2 ^ s % 18446744073709551616 % 4294967296)) / (y * 2 ^ s):=by
  have e1:(hi * 2 ^ s + lo / 2 ^ (64 - s)) * 18446744073709551616 + (lo * 2 ^ s % 18446744073709551616 / 4294967296 * 4294967296 + lo * 2 ^ s % 18446744073709551616 % 4294967296)=(hi * 18446744073709551616 + lo) * 2 ^ s:=by
   rw [a36,a4K (hi * 18446744073709551616),Nat.mul_right_comm hi];omega
  rw [e1,Nat.mul_div_mul_right _ _ hps]
 rw [hQ];have hu:hi * 2 ^ s + lo / 2 ^ (64 - s) < y * 2 ^ s:=by omega
 have hd1:lo * 2 ^ s % 18446744073709551616 / 4294967296 < 4294967296:=by omega
 have hd2:lo * 2 ^ s % 18446744073709551616 % 4294967296 < 4294967296:=by omega
 generalize hi * 2 ^ s + lo / 2 ^ (64 - s)=u at hu ⊢;generalize lo * 2 ^ s % 18446744073709551616 / 4294967296=d1 at hd1 ⊢;generalize lo * 2 ^ s % 18446744073709551616 % 4294967296=d2 at hd2 ⊢;generalize y * 2 ^ s=Y at hn1 hn2 hu ⊢;obtain⟨y1,hy1⟩:∃ y1,y1=Y / 4294967296:=⟨_,rfl⟩;obtain⟨y0,hy0⟩:∃ y0,y0=Y % 4294967296:=⟨_,rfl⟩;have hY:Y=y1 * 4294967296 + y0:=by omega
 have k1:2147483648<=y1:=by omega
 have k2:y1 < 4294967296:=by omega
 have k3:y0 < 4294967296:=by omega
 rw [<-hy1,<-hy0];clear hy1 hy0;subst hY;have hg:=Uf (Q:=CD (y1 * 4294967296 + y0) u d1) (by unfold CD;exact Eq.refl _) k1 k2 k3 hu hd1;have hup:=hg.up;have hmod:u % y1 < y1:=Nat.mod_lt _ (by omega);have eq0:D7 (Int.tdiv (u:Int) (y1:Int))=((u / y1:Nat):Int):=by
  rw [VQ,dK (by omega)]
 have er0:D7 ((u:Int) - D7 (((u / y1:Nat):Int) * (y1:Int)))=((u % y1:Nat):Int):=by
  have h:=a36 u y1;rw [PN];generalize u / y1 * y1=P at h ⊢;simp only [D7,IntKind.wrap_u64];omega
 rw [a2Y (by omega),a3r,C4,eq0,er0];exact VR rfl k1 k2 k3 hu hd1 hg (by omega) (a1g (by omega) k1 k2 k3 hu hd1 hd2)
def mdF (x y c:Nat):Int × Bool:=if c=0 then(0,false) else if c<=x * y / 18446744073709551616 then(0,false) else(((x * y / c:Nat):Int),true)
theorem Gy {x y c:Nat} (hx:x < 18446744073709551616) (hy:y < 18446744073709551616) (hc:c < 18446744073709551616):mw (x:Int) (y:Int) (c:Int)=some (mdF x y c):=by
 rw [<-J3];unfold mw mdF;rw [Av hx hy,a2X];dsimp only;by_cases h:c<=x * y / 18446744073709551616
 ·rw [a2S (by omega),E8,A4];split <;> simp
 ·rw [a2Y (by omega),E3,A5];have h1:=a36 (x * y) 18446744073709551616;refine(KF (hi:=x * y / 18446744073709551616) (lo:=x * y % 18446744073709551616) (y:=c) (by omega) (by omega) hc).mono λr hr=>?_;rw [h1] at hr;rw [A4,a25 (by omega),a25 h,hr]
theorem RU (lo:Nat) {k:Nat} (hk:k < 64):lo / 2 ^ (63 - k)=2 * (lo / 2 ^ (64 - k)) + lo / 2 ^ (63 - k) % 2:=by
 have h:lo / 2 ^ (64 - k)=lo / 2 ^ (63 - k) / 2:=by
  rw [Nat.div_div_eq_div_mul,<-a4C,show(63 - k).succ=64 - k by omega]
 rw [h];omega
theorem KG {x y c:Nat} (hx:x < 18446744073709551616) (hy:y < 18446744073709551616) (hc:c < 18446744073709551616):fj (x:Int) (y:Int) (c:Int)=some (mdF x y c):=by
 rw [<-J3];unfold fj mdF;rw [Gx hx hy,a2X];dsimp only;by_cases h0:c=0
 ·subst h0;rw [a2S (by omega),E8,a28 rfl,A4]
 rw [a2Y (by omega),E3,a25 h0];by_cases h:c<=x * y / 18446744073709551616
 ·rw [a2S (by omega),E8,a28 h,A4]
 rw [a2Y (by omega),E3,a25 h];obtain⟨hi,hhi⟩:∃ hi,hi=x * y / 18446744073709551616:=⟨_,rfl⟩;obtain⟨lo,hlo⟩:∃ lo,lo=x * y % 18446744073709551616:=⟨_,rfl⟩;have hN:x * y=hi * 18446744073709551616 + lo:=by omega
 have hlo2:lo < 18446744073709551616:=by omega
 have hhi2:hi < c:=by omega
 rw [<-hhi,<-hlo,hN];clear hhi hlo hN h;unfold kB;refine T2 (λm v=>∃ k rest out:Nat,v=((c:Int),(rest:Int),(lo:Int),(out:Int),63 - (k:Int))/\k<=64/\m=64 - k/\out * c + rest=hi * 2 ^ k + lo / 2 ^ (64 - k)/\rest < c/\out < 2 ^ k) ?_ (n:=64) ⟨0,hi,0,rfl,by omega,rfl,by rw [a4J,a3z,Nat.pow_zero,Nat.mul_one,a5n,Nat.div_eq_of_lt hlo2];rfl,hhi2,by omega⟩ (by omega);rintro m v ⟨k,rest,out,rfl,hk,rfl,hinv,hr,ho⟩;unfold gt;dsimp only;rw [A7];refine⟨λhcnd=>?_,λhcnd=>?_⟩
 ·have hcnd:=a23 hcnd;have hk':k < 64:=by omega
  have hnext:=RU lo hk';obtain⟨b,hb⟩:∃ b,b=lo / 2 ^ (63 - k) % 2:=⟨_,rfl⟩;have hb2:b < 2:=by omega
  have hpk:2 ^ (k + 1)=2 ^ k * 2:=a4C ..;have hpk2:2 ^ k<=2 ^ 63:=a4P (by omega) (by omega);have hV:hi * 2 ^ (k + 1) + lo / 2 ^ (64 - (k + 1))=2 * (out * c + rest) + b:=by
   rw [show 64 - (k + 1)=63 - k by omega,hnext,hinv,hpk,<-hb,<-a5h];omega
  have e1:min (Int.toNat (63 - (k:Int))) 64=63 - k:=by omega
  have e2:(lo:Int) / 2 ^ (63 - k)=((lo / 2 ^ (63 - k):Nat):Int):=by
   rw [show(2:Int) ^ (63 - k)=((2 ^ (63 - k):Nat):Int) by rw [a5i];rfl,Zk]
  have hle:lo / 2 ^ (63 - k) < 18446744073709551616:=Nat.lt_of_le_of_lt (Nat.div_le_self _ _) hlo2;have e3:D7 ((rest:Int) * 2 ^ 1)=((2 ^ 1 * (rest % 9223372036854775808):Nat):Int):=by
   rw [D7,IntKind.wrap_u64];omega
  have e4:D7 ((out:Int) * 2 ^ 1)=((2 ^ 1 * out:Nat):Int):=by
   rw [J4] <;> omega
  have e5:A9 (63 - (k:Int) - 1)=63 - ((k + 1:Nat):Int):=by rw [C8] <;> omega
  have ho1:bits .or .u64 ((2 ^ 1 * (rest % 9223372036854775808):Nat):Int) ((b:Nat):Int)=((2 ^ 1 * (rest % 9223372036854775808) + b:Nat):Int):=IJ (by omega) (by omega);have ho2:bits .or .u64 ((2 ^ 1 * out:Nat):Int) 1=((2 ^ 1 * out + 1:Nat):Int):=IJ (b:=1) (by omega) (by omega);rw [a2S hcnd,C4,e1,e2,VO hle,<-hb,e3,ho1,e4];have hbig:out * c + out * c + 2 * rest + b=2 * (out * c + rest) + b:=by omega
  have htake:c<=2 * rest + b->D7 (((2 ^ 1 * (rest % 9223372036854775808) + b:Nat):Int) - (c:Int))=((2 * rest + b - c:Nat):Int):=λhcc=>by
   rw [D7,IntKind.wrap_u64];omega
  have hyes:c<=2 * rest + b->Ok (R3 (c:Int) ((2 ^ 1 * (rest % 9223372036854775808) + b:Nat):Int) (lo:Int) ((2 ^ 1 * out:Nat):Int) (63 - (k:Int)) true) (Nxt (λr=>r=((((hi * 18446744073709551616 + lo) / c:Nat):Int),true)) λz=>∃ m,m < 64 - k/\∃ k rest out:Nat,z=((c:Int),(rest:Int),(lo:Int),(out:Int),63 - (k:Int))/\k<=64/\m=64 - k/\out * c + rest=hi * 2 ^ k + lo / 2 ^ (64 - k)/\rest < c/\out < 2 ^ k):=λhcc=>by
   unfold R3;rw [E8,htake hcc,ho2,e5,A4,B5];refine⟨64 - (k + 1),by omega,k + 1,2 * rest + b - c,2 ^ 1 * out + 1,rfl,by omega,rfl,?_,by omega,by omega⟩;have hoc:(2 ^ 1 * out + 1) * c=out * c + out * c + c:=by
    rw [a3D,show 2 ^ 1 * out=out + out by omega,a4K]
   rw [hV,hoc];omega
  rw [A7];refine⟨λhcar=>?_,λhcar=>?_⟩
  ·have hcar:=a23 hcar;have:9223372036854775808<=rest:=by omega
   exact hyes (by omega)
  ·have hcar:=a3k hcar;have hsm:rest < 9223372036854775808:=by omega
   have hmod:rest % 9223372036854775808=rest:=a4p hsm;by_cases hcc:c<=2 * rest + b
   ·rw [a2S (by rw [hmod];omega)];exact hyes hcc
   ·rw [a2Y (by rw [hmod];omega)];unfold R3;rw [E3,e5,A4,B5,hmod];refine⟨64 - (k + 1),by omega,k + 1,2 ^ 1 * rest + b,2 ^ 1 * out,rfl,by omega,rfl,?_,by omega,by omega⟩;have hoc:(2 ^ 1 * out) * c=out * c + out * c:=by
     rw [show 2 ^ 1 * out=out + out by omega,a4K]
    rw [hV,hoc];omega
 ·have hcnd:=a3k hcnd;have e:k=64:=by omega
  subst e;rw [A4,B8];have hd:(hi * 18446744073709551616 + lo) / c=out:=by
   have h1:hi * 18446744073709551616 + lo=rest + out * c:=by
    rw [a47,Nat.pow_zero,Nat.div_one] at hinv;have:(2:Nat) ^ 64=18446744073709551616:=rfl;rw [this] at hinv;omega
   rw [h1,Nat.add_mul_div_right _ _ (by omega),Nat.div_eq_of_lt hr,a3z]
  rw [hd]
theorem RV (x y c:Nat):mdF x y c=mdF y x c:=by unfold mdF;rw [a4B]
def Ot (fee gas:Nat):Int:=if gas=0 then 0 else if(mdF fee 1000 gas).2=true then(mdF fee 1000 gas).1 else 18446744073709551615
theorem Ou {fee gas:Nat} (h1:fee < 18446744073709551616) (h2:gas < 18446744073709551616):jN (fee:Int) (gas:Int)=some (Ot fee gas):=by
 unfold jN Ot;by_cases h:gas=0
 ·subst h;rw [a2S (by omega),E8,a28 rfl]
 ·have e:=Gy (x:=1000) (y:=fee) (c:=gas) (by omega) h1 h2;rw [a2Y (by omega),E3,a25 h,show(1000:Int)=((1000:Nat):Int) from rfl,e,a2X,RV];cases (mdF fee 1000 gas).2 with
  | true=>rw [a28 rfl];rfl
  | false=>rw [a25 (by decide)];rfl
theorem RW {fee gas:Nat} (h1:fee < 18446744073709551616) (h2:gas < 18446744073709551616):W9 (fee:Int) (gas:Int)=some (Ot fee gas):=by
 unfold W9 Ot;by_cases h:gas=0
 ·subst h;rw [a2S (by omega),E8,a28 rfl]
 ·have e:=KG (x:=fee) (y:=1000) (c:=gas) h1 (by omega) h2;rw [a2Y (by omega),E3,a25 h,show(1000:Int)=((1000:Nat):Int) from rfl,e,a2X];cases (mdF fee 1000 gas).2 with
  | true=>rw [a28 rfl];rfl
  | false=>rw [a25 (by decide)];rfl
end Go.Proofs.YtjbgdpjgfjnkbaaGreatDoor.Am
