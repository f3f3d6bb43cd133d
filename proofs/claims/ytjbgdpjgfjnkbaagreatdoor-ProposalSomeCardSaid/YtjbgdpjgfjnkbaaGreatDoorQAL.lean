/- Texts laid together: PAppS, PLen, PDiv. No conditions. -/
import Derived.Test.YtjbgdpjgfjnkbaaGreatDoorQAK
import Derived.Lib.Mul64
namespace Go.Proofs.YtjbgdpjgfjnkbaaGreatDoor.Am
open Go
theorem DT (a:o6) (n:List UInt8):iN a n=some (RL a.1 n):=by
 unfold iN;rw [RM];rfl
theorem Gw {l:List o6} {n:List UInt8} (hs:Srt l) (hl:l.length<=4398046511000):E2 l n=some (((J1 l n:Nat):Int),decide (H7 l n < l.length)):=by
 have hkl:J1 l n<=l.length:=Oe _ _;have hmono:∀ i (hi:i < l.length),J1 l n<=i->Op.bytesLess l[i].1 n=false:=λi hi h=>by
  have hp:(!Op.bytesLess l[J1 l n].1 n)=true:=Ci (p:=λa:o6=> !Op.bytesLess a.1 n) (by show J1 l n < l.length;omega);rcases a3O (J1 l n) i with h1 | h1
  ·have h2:Op.bytesLess l[J1 l n].1 l[i].1=true:=hs.lt (by omega) hi h1;cases e:Op.bytesLess l[i].1 n with
   | false=>rfl
   | true=>rw [qE h2 e] at hp;cases hp
  ·have:i=J1 l n:=by omega
   subst this;simpa using hp
 have hless:∀ i (hi:i < l.length),i < J1 l n->Op.bytesLess l[i].1 n=true:=λi hi h=>by
  have:=vT (p:=λa:o6=> !Op.bytesLess a.1 n) hi h;simpa using this
 have hfind:H7 l n < l.length ↔ ∃ h:J1 l n < l.length,l[J1 l n].1=n:=by
  constructor
  ·intro h;have hp:l[H7 l n].1=n:=a23 (Ci (p:=λa:o6=>decide (a.1=n)) h);have:J1 l n=H7 l n:=by
    refine DO h (by rw [hp,gY];rfl) λj hj hlt=>?_;have:=hs.lt hj h hlt;unfold less at this;rw [hp] at this;rw [this];rfl
   exact⟨by omega,by simp only [this,hp]⟩
  ·rintro⟨h,e⟩;rcases a3O (H7 l n) l.length with h1 | h1
   ·exact h1
   ·exfalso;have:=vT (p:=λa:o6=>decide (a.1=n)) h (by show J1 l n < H7 l n;omega);exact a3k this e
 rw [<-J3];unfold E2 H8;refine T2 (λm v=>∃ lo hi:Nat,v=(l,n,((l.length:Nat):Int),(lo:Int),(hi:Int))/\lo<=J1 l n/\J1 l n<=hi/\hi<=l.length/\m=hi - lo) ?_ (n:=l.length) ⟨0,l.length,rfl,by omega,hkl,by omega,by omega⟩ (by omega);rintro m v ⟨lo,hi,rfl,h1,h2,h3,rfl⟩;unfold F0;dsimp only;rw [A7];refine⟨λh=>?_,λh=>?_⟩
 ·have h:=a23 h;have hsum:(lo:Int) + (hi:Int)=((lo + hi:Nat):Int):=by omega
  have hm:(lo + hi) / 2 < l.length:=by omega
  rw [hsum,a2N (by omega),a2S (by omega:(0:Int)<=(((lo + hi) / 2:Nat):Int)/\(((lo + hi) / 2:Nat):Int) < ((l.length:Nat):Int)),C4,a2T,E0 hm,DT,a2X,A7];refine⟨λhc=>?_,λhc=>?_⟩
  ·have hc:=(xk _ _).1 (a23 hc);rw [A4,B5,D2 (by omega)];refine⟨hi - ((lo + hi) / 2 + 1),by omega,(lo + hi) / 2 + 1,hi,rfl,?_,h2,h3,rfl⟩;rcases a3O ((lo + hi) / 2) (J1 l n) with h4 | h4
   ·omega
   ·rw [hmono _ hm h4] at hc;cases hc
  ·have hc:=a3k hc;rw [xk] at hc;rw [A4,B5];refine⟨(lo + hi) / 2 - lo,by omega,lo,(lo + hi) / 2,rfl,h1,?_,by omega,rfl⟩;rcases a3O ((lo + hi) / 2) (J1 l n) with h4 | h4
   ·exact absurd (hless _ hm h4) hc
   ·exact h4
 ·have h:=a3k h;have he:lo=J1 l n:=by omega
  subst he;unfold E9;rw [C9,A7];refine⟨λhk=>?_,λhk=>?_⟩
  ·have hk:=a23 hk;have hk':J1 l n < l.length:=by omega
   rw [a2S (by omega:(0:Int)<=((J1 l n:Nat):Int)/\((J1 l n:Nat):Int) < ((l.length:Nat):Int)),C4,a2T,E0 hk',DT,a2X,A4,B8];refine Prod.ext rfl ?_;show decide (RL l[J1 l n].1 n=0)=decide (H7 l n < l.length);rw [decide_eq_decide,Od,hfind];exact⟨λe=>⟨hk',e⟩,λ⟨_,e⟩=>e⟩
  ·have hk:=a3k hk;rw [A4,B8,a2Y (λh=>by obtain⟨h,_⟩:=hfind.1 h;omega)]
def BL (n t:Nat):Prop:=2 ^ (t - 1)<=n/\n < 2 ^ t/\1<=t
theorem Zc:∃ tab:List UInt8,(∀ v0 v2:Int,bO v0 v2=chk (decide ((0:Int)<=(wu8 v0)/\(wu8 v0) < 256)) (some (A9 (v2 + (A9 ((UInt8.toNat (List.getD tab (Int.toNat (wu8 v0)) (0:UInt8)):Nat):Int))))))/\∀ k,k < 256->1<=k->2 ^ ((tab.getD k 0).toNat - 1)<=k/\k < 2 ^ (tab.getD k 0).toNat/\1<=(tab.getD k 0).toNat:=⟨_,λ_ _=>rfl,a23 (by kernel_rfl)⟩
theorem Zd {n:Nat} (h1:1<=n) (h2:n < 256) {c:Nat} (hc:c<=1000):∃ t,bO (n:Int) (c:Int)=some ((c + t:Nat):Int)/\BL n t:=by
 obtain⟨tab,e,h⟩:=Zc;have hu:wu8 (n:Int)=(n:Int):=YX (by omega) (by omega);have hb:=h n h2 h1;have hlt:=(tab.getD n 0).toNat_lt;refine⟨(tab.getD n 0).toNat,?_,hb⟩;rw [e,hu,a2S (by omega),C4,a2T,C8 (n:=(((tab.getD n 0).toNat:Nat):Int)) (by omega) (by omega),C8 (by omega) (by omega)];congr 1
theorem BL.up {n t:Nat} (s:Nat) (h:BL (n / 2 ^ s) t):BL n (s + t):=by
 obtain⟨h1,h2,h3⟩:=h;have hp:0 < 2 ^ s:=Nat.pow_pos (by omega);refine⟨?_,?_,by omega⟩
 ·have h4:=(a48 hp).1 h1;rw [<-a41] at h4
  rwa [show s + t - 1=t - 1 + s by omega]
 ·have h4:=(a4l hp).1 h2;rw [<-a41] at h4
  rwa [a3S]
theorem Cm (n s:Nat):(n:Int) / 2 ^ s=((n / 2 ^ s:Nat):Int):=by
 rw [Int.natCast_ediv,a5i];rfl
theorem Ze {n:Nat} (h1:1<=n) (h2:n < 65536) {c:Nat} (hc:c<=900):∃ t,bP (n:Int) (c:Int)=some ((c + t:Nat):Int)/\BL n t:=by
 unfold bP;by_cases h:256<=n
 ·obtain⟨t,e,hb⟩:=Zd (n:=n / 2 ^ 8) (by omega) (by omega) (c:=c + 8) (by omega);refine⟨8 + t,?_,hb.up 8⟩;have e0:(n:Int) / 2 ^ 8=((n / 2 ^ 8:Nat):Int):=Cm n 8;have e1:A9 ((c:Int) + 8)=((c + 8:Nat):Int):=by rw [C8] <;> omega
  have e2:c + 8 + t=c + (8 + t):=by omega
  rw [a2S (by omega),E8,e0,e1,e,e2]
 ·rw [a2Y (by omega),E3];exact Zd h1 (by omega) (by omega)
theorem Zf {n:Nat} (h1:1<=n) (h2:n < 4294967296) {c:Nat} (hc:c<=800):∃ t,bQ (n:Int) (c:Int)=some ((c + t:Nat):Int)/\BL n t:=by
 unfold bQ;by_cases h:65536<=n
 ·obtain⟨t,e,hb⟩:=Ze (n:=n / 2 ^ 16) (by omega) (by omega) (c:=c + 16) (by omega);refine⟨16 + t,?_,hb.up 16⟩;have e0:(n:Int) / 2 ^ 16=((n / 2 ^ 16:Nat):Int):=Cm n 16;have e1:A9 ((c:Int) + 16)=((c + 16:Nat):Int):=by rw [C8] <;> omega
  have e2:c + 16 + t=c + (16 + t):=by omega
  rw [a2S (by omega),E8,e0,e1,e,e2]
 ·rw [a2Y (by omega),E3];exact Ze h1 (by omega) (by omega)
theorem Zg {n:Nat} (h1:1<=n) (h2:n < 18446744073709551616):∃ t,jm (n:Int)=some ((t:Nat):Int)/\BL n t:=by
 unfold jm;by_cases h:4294967296<=n
 ·obtain⟨t,e,hb⟩:=Zf (n:=n / 2 ^ 32) (by omega) (by omega) (c:=32) (by omega);refine⟨32 + t,?_,hb.up 32⟩;have e0:(n:Int) / 2 ^ 32=((n / 2 ^ 32:Nat):Int):=Cm n 32;rw [a2S (by omega),E8,e0];exact e
 ·rw [a2Y (by omega),E3];obtain⟨t,e,hb⟩:=Zf (n:=n) h1 (by omega) (c:=0) (by omega);refine⟨t,?_,hb⟩;rw [a3z] at e;exact e
theorem a0f (m:Nat) (hm:m < 18446744073709551616):(BitVec.ofInt IntKind.u64.bits (m:Int)).toNat=m:=by
 rw [a5s];show((m:Int) % ((2 ^ 64:Nat):Int)).toNat=m;omega
theorem mC {m:Nat} (hm:m < 18446744073709551616):bits .and .u64 (m:Int) 4294967295=((m % 4294967296:Nat):Int):=by
 unfold bits;rw [IntKind.wrap_u64];have e:(BitVec.ofInt IntKind.u64.bits (m:Int) &&& BitVec.ofInt IntKind.u64.bits 4294967295).toNat=m % 4294967296:=by
  rw [a5c,a0f m hm,show(BitVec.ofInt IntKind.u64.bits 4294967295).toNat=4294967295 from rfl];exact a4m m 32
 simp only [e];omega
theorem VO {m:Nat} (hm:m < 18446744073709551616):bits .and .u64 (m:Int) 1=((m % 2:Nat):Int):=by
 unfold bits;rw [IntKind.wrap_u64];have e:(BitVec.ofInt IntKind.u64.bits (m:Int) &&& BitVec.ofInt IntKind.u64.bits 1).toNat=m % 2:=by
  rw [a5c,a0f m hm,show(BitVec.ofInt IntKind.u64.bits 1).toNat=1 from rfl];exact a4m m 1
 simp only [e];omega
theorem IJ {a b s:Nat} (hb:b < 2 ^ s) (h:2 ^ s * a + b < 18446744073709551616):bits .or .u64 ((2 ^ s * a:Nat):Int) (b:Int)=((2 ^ s * a + b:Nat):Int):=by
 unfold bits;rw [IntKind.wrap_u64];have e:(BitVec.ofInt IntKind.u64.bits ((2 ^ s * a:Nat):Int) ||| BitVec.ofInt IntKind.u64.bits (b:Int)).toNat=2 ^ s * a + b:=by
  rw [BitVec.toNat_or,a0f _ (by omega),a0f _ (by omega)];exact(Nat.two_pow_add_eq_or_of_lt hb a).symm
 simp only [e];omega
theorem dK {m:Nat} (h:m < 18446744073709551616):D7 (m:Int)=(m:Int):=J4 (by omega) (by omega)
theorem Om (m:Nat):D7 (m:Int)=((m % 18446744073709551616:Nat):Int):=by
 rw [D7,IntKind.wrap_u64];omega
theorem Cn (m:Nat):(m:Int) / 2 ^ 32=((m / 4294967296:Nat):Int):=by omega
theorem PN (a b:Nat):(a:Int) * (b:Int)=((a * b:Nat):Int):=(Int.natCast_mul a b).symm
theorem PO (a b:Nat):(a:Int) + (b:Int)=((a + b:Nat):Int):=(Int.natCast_add a b).symm
theorem Av {x y:Nat} (hx:x < 18446744073709551616) (hy:y < 18446744073709551616):fP (x:Int) (y:Int)=some (((x * y / 18446744073709551616:Nat):Int),((x * y % 18446744073709551616:Nat):Int)):=by
 obtain⟨b1,b2,b3,hhi⟩:=Lib.mul64_hi x y hx hy;have ha:=Lib.half_mul_le (a:=x / 4294967296) (b:=y / 4294967296) (by omega) (by omega);have hb:=Lib.half_mul_le (a:=x / 4294967296) (b:=y % 4294967296) (by omega) (by omega);have hc:=Lib.half_mul_le (a:=x % 4294967296) (b:=y / 4294967296) (by omega) (by omega);unfold fP;have hxy:x * y / 18446744073709551616 < 18446744073709551616:=by
  have:x * y < 18446744073709551616 * 18446744073709551616:=Nat.mul_lt_mul'' hx hy;omega
 simp only [Cn,mC hx,mC hy,PN];rw [dK (m:=x / 4294967296 * (y / 4294967296)) (by omega),dK (m:=x / 4294967296 * (y % 4294967296)) (by omega),dK (m:=x % 4294967296 * (y % 4294967296)) b1,dK (m:=x % 4294967296 * (y / 4294967296)) (by omega)];simp only [Cn,PO];rw [dK b2];simp only [mC b2,Cn,PO];rw [dK b3,dK (m:=x / 4294967296 * (y / 4294967296) + (x / 4294967296 * (y % 4294967296) + x % 4294967296 * (y % 4294967296) / 4294967296) / 4294967296) (by omega)];simp only [Cn,PO];rw [hhi,dK hxy,Om (x * y)]
theorem Gx {x y:Nat} (hx:x < 18446744073709551616) (hy:y < 18446744073709551616):dV (x:Int) (y:Int)=some (((x * y / 18446744073709551616:Nat):Int),((x * y % 18446744073709551616:Nat):Int)):=by
 have ha:=Lib.half_mul_le (a:=x / 4294967296) (b:=y / 4294967296) (by omega) (by omega);have hb:=Lib.half_mul_le (a:=x / 4294967296) (b:=y % 4294967296) (by omega) (by omega);have hc:=Lib.half_mul_le (a:=x % 4294967296) (b:=y / 4294967296) (by omega) (by omega);have hd:=Lib.half_mul_le (a:=x % 4294967296) (b:=y % 4294967296) (by omega) (by omega);have e:x * y=(x / 4294967296) * (y / 4294967296) * (4294967296 * 4294967296) + ((x / 4294967296) * (y % 4294967296) + (x % 4294967296) * (y / 4294967296)) * 4294967296 + (x % 4294967296) * (y % 4294967296):=by
  rw [<-Lib.split_mul,a36 x 4294967296,a36 y 4294967296]
 unfold dV;simp only [Cn,mC hx,mC hy,PN];have hxy:x * y / 18446744073709551616 < 18446744073709551616:=by
  have:x * y < 18446744073709551616 * 18446744073709551616:=Nat.mul_lt_mul'' hx hy;omega
 rw [e] at hxy ⊢;generalize (x / 4294967296) * (y / 4294967296)=a at *
 generalize (x / 4294967296) * (y % 4294967296)=b at *
 generalize (x % 4294967296) * (y / 4294967296)=c at *
 generalize (x % 4294967296) * (y % 4294967296)=d at *
 rw [dK (m:=a) (by omega),dK (m:=b) (by omega),dK (m:=c) (by omega),dK (m:=d) (by omega)];simp only [Cn,mC (m:=b) (by omega),mC (m:=c) (by omega),mC (m:=d) (by omega),PO];rw [dK (m:=a + b / 4294967296) (by omega),dK (m:=d / 4294967296 + b % 4294967296) (by omega)];simp only [PO];rw [dK (m:=a + b / 4294967296 + c / 4294967296) (by omega),dK (m:=d / 4294967296 + b % 4294967296 + c % 4294967296) (by omega)];simp only [Cn,PO];rw [dK (m:=a + b / 4294967296 + c / 4294967296 + (d / 4294967296 + b % 4294967296 + c % 4294967296) / 4294967296) (by omega)];have hm:D7 (((d / 4294967296 + b % 4294967296 + c % 4294967296:Nat):Int) * 2 ^ 32)=((2 ^ 32 * ((d / 4294967296 + b % 4294967296 + c % 4294967296) % 4294967296):Nat):Int):=by
  rw [D7,IntKind.wrap_u64];omega
 rw [hm,IJ (by omega) (by omega)];congr 2
 ·omega
 ·omega
def Zh (x y:Nat):Int × Bool:=if x * y < 18446744073709551616 then(((x * y:Nat):Int),true) else(0,false)
theorem On (n:Int) (b:Bool):rD n b=some (if b=true then n else 0,b):=by cases b <;> rfl
theorem RT {x y:Nat} (hx:x < 18446744073709551616) (hy:y < 18446744073709551616):qo (x:Int) (y:Int)=some (Zh x y):=by
 unfold qo Zh;rw [Av hx hy,a2X,On,a2X];by_cases h:x * y < 18446744073709551616
 ·have h0:x * y / 18446744073709551616=0:=by omega
  have h1:x * y % 18446744073709551616=x * y:=a4p h;rw [a28 h,h0,h1];rfl
 ·have h0:¬ ((x * y / 18446744073709551616:Nat):Int)=0:=by omega
  rw [a25 h];dsimp only;rw [a2Y h0];rfl
theorem VP {x y:Nat} (hx:x < 18446744073709551616) (_hy:y < 18446744073709551616):jg (x:Int) (y:Int)=some (Zh x y):=by
 unfold jg Zh;by_cases h0:x=0
 ·subst h0;rw [a2S (by omega),a3m,E3,a4J,a28 (by omega),PN,a4J];rfl
 ·have hd:D7 (Int.tdiv 18446744073709551615 (x:Int))=((18446744073709551615 / x:Nat):Int):=by
   rw [show Int.tdiv 18446744073709551615 (x:Int)=((18446744073709551615 / x:Nat):Int) from rfl,dK];have:=Nat.div_le_self 18446744073709551615 x;omega
  rw [a2Y (by omega),a3r,E8,C4,hd,PN,Om];have key:18446744073709551615 / x < y ↔ ¬ x * y < 18446744073709551616:=by
   rw [a4l (by omega),a4B y x];omega
  by_cases h:x * y < 18446744073709551616
  ·rw [a28 h,a2Y (by have:=(not_congr key).2 (by simpa using h);omega),E3,a4p h]
  ·rw [a25 h,a2S (by have:=key.2 h;omega),E8]
end Go.Proofs.YtjbgdpjgfjnkbaaGreatDoor.Am
