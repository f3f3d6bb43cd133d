/- Texts laid together: PDigB, PRootN, PSize, PStV. No conditions. -/
import Derived.Test.YtjbgdpjgfjnkbaaGreatDoorQAV
namespace Go.Proofs.YtjbgdpjgfjnkbaaGreatDoor.Am
open Go
theorem SH (op:BinOp) (a b:Int):0<=bits op .u8 a b/\bits op .u8 a b < 256:=by
 unfold bits;rw [IntKind.wrap_u8];omega
theorem yR {a:List UInt8} {n:Int} (h0:0<=n) (h1:n < 18446744073709551616) (hl:a.length<=140737488355300):Ok (H3 a n) λr=>r.length<=a.length + 10:=by
 unfold H3;rw [a2S ⟨by unfold LIM;omega,by unfold LEN;omega⟩,C4];unfold bb;refine T2 (λk v=>∃ (i m:Nat) (l:List UInt8),v=((m:Int),l)/\i<=9/\k=10 - i/\l.length=a.length + i/\m < 2 ^ (64 - 7 * i)) ?_ (n:=10) ⟨0,n.toNat,a,by rw [a38 h0],by omega,rfl,rfl,by omega⟩ (by omega);rintro k v ⟨i,m,l,rfl,hi,rfl,hll,hm⟩;unfold W7;dsimp only;rw [A7];refine⟨λhc=>?_,λhc=>?_⟩
 ·have hc:=a23 hc;have hi8:i<=8:=by
   rcases a3O 8 i with h | h
   ·have e:i=9:=by omega
    subst e;simp only [Nat.reduceMul,Nat.reduceSub,Nat.reducePow] at hm;omega
   ·exact h
  have hdiv:m / 2 ^ 7 < 2 ^ (64 - 7 * (i + 1)):=by
   refine Nat.div_lt_of_lt_mul ?_;rw [<-a41,show 7 + (64 - 7 * (i + 1))=64 - 7 * i by omega];exact hm
  rw [a2S (SH _ _ _),C4,a2S ⟨by unfold LIM;omega,by unfold LEN;omega⟩,C4,A4,B5,Cm];exact⟨10 - (i + 1),by omega,i + 1,m / 2 ^ 7,_,rfl,by omega,rfl,by rw [a2V,a3f];omega,hdiv⟩
 ·rw [C9];unfold W6;rw [a2S (fZ _),C4,a2S ⟨by unfold LIM;omega,by unfold LEN;omega⟩,C4,A4,B8,a2V,a3f];omega
def WO (f:A6):Prop:=(1<=f.1/\f.1<=100)/\(f.2.1=0\/f.2.1=2)/\(0<=f.2.2.1/\f.2.2.1 < 18446744073709551616)
theorem SI (f:A6):Ok (U7 f) λ_=>True:=by
 unfold U7;simp only [A7,A4];refine⟨λ_=>trivial,λ_=>⟨λ_=>trivial,λ_=>⟨λ_=>⟨λ_=>trivial,λ_=>⟨λ_=>trivial,λ_=>trivial⟩⟩,λ_=>⟨λ_=>trivial,λ_=>trivial⟩⟩⟩⟩
theorem OZ {a:List UInt8} {f:A6} (h:WO f) (hl:a.length + f.2.2.2.length<=140737488355100):Ok (ai a f) λr=>r.1.length<=a.length + f.2.2.2.length + 20:=by
 unfold ai;rw [A5];refine(SI f).mono λr1 _=>?_;rw [A7];refine⟨λ_=>?_,λ_=>?_⟩
 ·rw [A4];exact a3B _
 rw [A5];have hw:=V9 (D7 (D7 f.1 * 8) + D7 f.2.1);refine(yR hw.1 hw.2 (by omega)).mono λr2 h2=>?_;rw [A7];refine⟨λ_=>?_,λ_=>?_⟩
 ·rw [A5];refine(yR h.2.2.1 h.2.2.2 (by omega)).mono λr3 h3=>?_;rw [A4];dsimp only;omega
 ·rw [A5];have hw:=V9 (((List.length f.2.2.2):Nat):Int);refine(yR hw.1 hw.2 (by omega)).mono λr3 h3=>?_;rw [a2S ⟨by unfold LIM;omega,by unfold LEN;omega⟩,C4,A4];dsimp only;rw [a2V];omega
def wtF (l:List A6):Nat:=(l.map λf=>f.2.2.2.length + 20).sum
theorem SJ {l:List A6} {i:Nat} (h:i < l.length):wtF (l.take (i + 1))=wtF (l.take i) + (l[i].2.2.2.length + 20):=by
 unfold wtF;rw [I2 h,a3g,a4k];simp
theorem ZE (l:List A6) (i:Nat):wtF (l.take i)<=wtF l:=by
 have:wtF l=wtF (l.take i) + wtF (l.drop i):=by
  unfold wtF;rw [<-a4k,<-a3g,a3q]
 omega
theorem Et {l:List A6} (h:∀ f ∈ l,WO f) (hl:l.length<=100000) (hw:wtF l<=140737488355000):Ok (E5 l) λr=>r.length<=wtF l:=by
 unfold E5 eP;refine D8 l (λi (b:List UInt8)=>(l,((l.length:Nat):Int),((i:Nat):Int),b)) (λi b=>b.length<=wtF (l.take i)) (λi b hi hv=>?_) (λb hv=>?_) (b0:=[]) (a3B _) (by omega)
 ·have h1:=SJ hi;have h2:=ZE l (i + 1);unfold O3;dsimp only;rw [a2S (by omega:(i:Int) < ((l.length:Nat):Int)),E8,a2S (by omega:(0:Int)<=(i:Int)/\(i:Int) < ((l.length:Nat):Int)),C4,a2T,E0 hi,A5];refine(OZ (h _ (a29 hi)) (by omega)).mono λr hr=>?_;rw [A4,B5,D2 (by omega)];exact⟨_,rfl,by omega⟩
 ·rw [a3i] at hv;unfold O3;dsimp only;rw [a2Y (by omega),E3,A4,B8];exact hv
theorem SK {n:Nat} (h1:2<=n) (h2:n<=1000000000000000):∃ t,dY (n:Int)=some ((2 ^ t:Nat):Int)/\2 ^ t < n/\n<=2 * 2 ^ t:=by
 have:Ok (dY (n:Int)) λr=>∃ t:Nat,r=((2 ^ t:Nat):Int)/\2 ^ t < n/\n<=2 * 2 ^ t:=by
  unfold dY lK;refine T2 (λk v=>∃ t:Nat,v=((n:Int),((2 ^ t:Nat):Int))/\2 ^ t < n/\k=n - 2 ^ t) ?_ (n:=n - 1) ⟨0,rfl,by omega,rfl⟩ (by omega);rintro k v ⟨t,rfl,ht,rfl⟩;have hp:0 < 2 ^ t:=Nat.pow_pos (by omega);unfold iR;dsimp only;rw [C8 (n:=(n:Int) - ((2 ^ t:Nat):Int)) (by omega) (by omega),C8 (n:=((2 ^ t:Nat):Int) * 2) (by omega) (by omega),A7];refine⟨λhc=>?_,λhc=>?_⟩
  ·have hc:=a23 hc;rw [A4,B5];have hs:2 ^ (t + 1)=2 ^ t * 2:=a4C ..;exact⟨n - 2 ^ (t + 1),by omega,t + 1,by rw [hs];rfl,by omega,rfl⟩
  ·have hc:=a3k hc;rw [A4,B8];exact⟨t,rfl,ht,by omega⟩
 obtain⟨r,e,t,rfl,h⟩:=this;exact⟨t,e,h⟩
theorem SL {l:List UInt8} (hb:l.length<=140737488340000):Ans (iA l):=by
 unfold iA;rw [a2S ⟨by unfold LIM;omega,by unfold LEN;omega⟩,C4];exact H2 (oN (by rw [a2V,a3f];omega)) λr=>⟨_,rfl,trivial⟩
theorem Pb (a b:Vector UInt8 32):Ans (gF a b):=by
 have h1:(Vector.toList a).length=32:=a3N;have h2:(Vector.toList b).length=32:=a3N;unfold gF;rw [a2V,a3f,h1,h2,a2S ⟨by unfold LIM;omega,by unfold LEN;omega⟩,C4,a2S ⟨by unfold LIM;omega,by unfold LEN;omega⟩,C4];exact H2 (oN (by simp only [a2V,a3f];omega)) λr=>⟨_,rfl,trivial⟩
theorem Cy:∀ (f:Nat) (l:List (List UInt8)),l.length < f->l.length<=1000000000000000->(∀ b ∈ l,b.length<=140737488340000)->Ans (S4 f l)
 | 0,l,h,_,_=>by omega
 | f + 1,l,h,hl,hb=>by
  show Ans (gG (S4 f) l);unfold gG;by_cases h0:l.length=0
  ·rw [a2S (by omega),E8];exact H2 (oN (by simp)) λr=>⟨_,rfl,trivial⟩
  rw [a2Y (by omega),E3];by_cases h1:l.length=1
  ·have hb0:(l.getD 0 []).length<=140737488340000:=by rw [E0 (by omega)];exact hb _ (a29 _)
   rw [a2S (by omega),E8,a2S (by omega),C4];exact H2 (SL hb0) λr=>⟨_,rfl,trivial⟩
  rw [a2Y (by omega),E3];obtain⟨t,e2,k2,k3⟩:=SK (n:=l.length) (by omega) hl;have k1:0 < 2 ^ t:=Nat.pow_pos (by omega);have lt:(l.take (2 ^ t)).length=2 ^ t:=by rw [a26];omega
  have ld:(l.drop (2 ^ t)).length=l.length - 2 ^ t:=a3a;rw [e2,a2X,a2S (by omega),C4,a2T,a2T,a3i];refine H2 (Cy f _ (by omega) (by omega) (λb hx=>hb b (a4q hx))) λr4=>?_;rw [a2S (by omega),C4];refine H2 (Cy f _ (by omega) (by omega) (λb hx=>hb b (a4O hx))) λr5=>?_;exact H2 (Pb _ _) λr=>⟨_,rfl,trivial⟩
theorem vB {l:List (List UInt8)} (hl:l.length<=1000000000) (hb:∀ b ∈ l,b.length<=140737488340000):Ans (S4 EH l):=
 Cy EH l (by rw [vN];omega) (by omega) hb
theorem Jd {g:o8} (hg:GI 256 g):Ans (Q8 g):=by
 have hl:=hg.1;unfold Q8 fQ;refine D8 g.1 (λi (v:List (List UInt8))=>(g.1,((g.1.length:Nat):Int),((i:Nat):Int),g,Vector.replicate 32 (0:UInt8),v)) (λi v=>v.length=i/\∀ x ∈ v,x.length<=1000000000) (λi v hi hv=>?_) (λv hv=>?_) (b0:=[]) ⟨rfl,λx hx=>by cases hx⟩ (by omega)
 ·obtain⟨h1,h2,h3⟩:=hg.2.1 _ (a29 hi);have hn:=h1.2;unfold S5;dsimp only;rw [a2S (by omega:(i:Int) < ((g.1.length:Nat):Int)),E8,a2S (by omega:(0:Int)<=(i:Int)/\(i:Int) < ((g.1.length:Nat):Int)),C4,a2T,E0 hi,a2S (by simp only [maxLen];omega),C4,A5];have hw:wtF [(1,2,(0:Int),g.1[i].1),(2,(0:Int),g.1[i].2.1,[]),(3,(0:Int),g.1[i].2.2,[])]=g.1[i].1.length + 60:=by simp [wtF]
  refine(Et (λf hf=>?_) (by simp) (by omega)).mono λr hr=>?_
  ·simp only [a4c,a4H,or_false] at hf;rcases hf with rfl | rfl | rfl
   ·exact⟨⟨by dsimp only;omega,by dsimp only;omega⟩,.inr rfl,by dsimp only;omega,by dsimp only;omega⟩
   ·exact⟨⟨by dsimp only;omega,by dsimp only;omega⟩,.inl rfl,h2⟩
   ·exact⟨⟨by dsimp only;omega,by dsimp only;omega⟩,.inl rfl,h3⟩
  rw [a2S ⟨by unfold LIM;omega,by unfold LEN;omega⟩,C4,A4,B5,D2 (by omega)];refine⟨_,rfl,by rw [a2V,a3f,hv.1],λx hx=>?_⟩;rcases List.mem_append.1 hx with hx | hx
  ·exact hv.2 x hx
  ·rw [List.mem_singleton.1 hx];omega
 ·unfold S5 aG;dsimp only;rw [a2Y (by omega),E3,C9,A5];have hw:wtF [(4,(0:Int),g.2,[])]=20:=by simp [wtF]
  refine(Et (λf hf=>?_) (by simp) (by omega)).mono λr hr=>?_
  ·rw [a3o] at hf;subst hf;exact⟨⟨by dsimp only;omega,by dsimp only;omega⟩,.inl rfl,hg.2.2⟩
  rw [a2S ⟨by unfold LIM;omega,by unfold LEN;omega⟩,C4];refine H2 (vB (by rw [a2V,a3f];omega) λx hx=>?_) λr=>⟨_,rfl,trivial⟩;rcases List.mem_append.1 hx with hx | hx
  ·have:=hv.2 x hx;omega
  ·rw [List.mem_singleton.1 hx];omega
theorem Pc {l:List D0} (h:∀ r ∈ l,okU r.2.2.2.1) (hl:l.length<=1000000):Ans (aH l):=by
 unfold aH jO;refine D8 l (λi (v:List (List UInt8))=>(l,((l.length:Nat):Int),((i:Nat):Int),Vector.replicate 32 (0:UInt8),v)) (λi v=>v.length=i/\∀ x ∈ v,x.length<=1000000000) (λi v hi hv=>?_) (λv hv=>?_) (b0:=[]) ⟨rfl,λx hx=>by cases hx⟩ (by omega)
 ·have h1:=h _ (a29 hi);unfold bg;dsimp only;rw [a2S (by omega:(i:Int) < ((l.length:Nat):Int)),E8,a2S (by omega:(0:Int)<=(i:Int)/\(i:Int) < ((l.length:Nat):Int)),C4,a2T,E0 hi,A5];have hw:wtF [(1,(0:Int),D7 l[i].1,[]),(2,(0:Int),l[i].2.2.2.1,[])]=40:=by simp [wtF]
  refine(Et (λf hf=>?_) (by simp) (by omega)).mono λr hr=>?_
  ·simp only [a4c,a4H,or_false] at hf;rcases hf with rfl | rfl
   ·exact⟨⟨by dsimp only;omega,by dsimp only;omega⟩,.inl rfl,V9 _⟩
   ·exact⟨⟨by dsimp only;omega,by dsimp only;omega⟩,.inl rfl,h1⟩
  rw [a2S ⟨by unfold LIM;omega,by unfold LEN;omega⟩,C4,A4,B5,D2 (by omega)];refine⟨_,rfl,by rw [a2V,a3f,hv.1],λx hx=>?_⟩;rcases List.mem_append.1 hx with hx | hx
  ·exact hv.2 x hx
  ·rw [List.mem_singleton.1 hx];omega
 ·unfold bg;dsimp only;rw [a2Y (by omega),E3,C9];exact H2 (vB (by omega) λx hx=>by have:=hv.2 x hx;omega) λr=>⟨_,rfl,trivial⟩
theorem GJ {g:o8} (hg:GI 256 g):Ok (dx g) λt=>t.1=0/\t.2.1=0:=by
 unfold dx;refine H2 (Jd hg) λk=>H2 (oN (by rw [a3N];omega)) λk2=>H2 (Pc (λr hr=>by cases hr) (by simp)) λk3=>⟨_,rfl,rfl,rfl⟩
def vsz (n:Nat):Nat:=if n < 128 then 1 else vsz (n / 128) + 1
termination_by n
decreasing_by omega
theorem Pd {n:Nat} (h:n < 128):vsz n=1:=by rw [vsz,a28 h]
theorem Pe {n:Nat} (h:¬ n < 128):vsz n=vsz (n / 128) + 1:=by rw [vsz,a25 h]
theorem ZF:∀ (k n:Nat),n < 128 ^ k->1<=k->vsz n<=k:=by
 intro k
 induction k with
 | zero=>intro n _ h;omega
 | succ k ih=>
  intro n h _;by_cases h1:n < 128
  ·rw [Pd h1];omega
  ·rw [Pe h1];have hk:1<=k:=by
    cases k with
    | zero=>simp at h;omega
    | succ k=>omega
   have:=ih (n / 128) (by rw [a4C] at h;omega) hk;omega
theorem Pg (n:Nat):1<=vsz n:=by rw [vsz];split <;> omega
theorem Eu {n:Nat} (h:n < 18446744073709551616):vsz n<=10:=ZF 10 n (by have:(128:Nat) ^ 10=1180591620717411303424:=rfl;omega) (by omega)
theorem Wp {n:Nat} (h:n < 18446744073709551616):nJ (n:Int)=some (vsz n:Int):=by
 unfold nJ pw;refine J3.1 (T2 (λk v=>∃ m j:Nat,m=k/\m < 18446744073709551616/\j + vsz m=vsz n + 1/\v=((m:Int),(j:Int))) ?_ ⟨n,1,rfl,h,by omega,rfl⟩ (by omega));rintro k v ⟨m,j,rfl,hm,hj,rfl⟩;have h10:=Eu h;have hp:=Pg m;dsimp only;have w:A9 ((j:Int) + 1)=((j + 1:Nat):Int):=D2 (by omega);have e:(m:Int) / 2 ^ 7=((m / 128:Nat):Int):=by omega
 simp only [nk,w,e,A7,A4,B5,B8,a2W,a2U];refine⟨λh1=>⟨m / 128,by omega,m / 128,j + 1,rfl,by omega,?_,rfl⟩,λh1=>?_⟩
 ·rw [Pe (by omega)] at hj;omega
 ·rw [Pd (by omega)] at hj;omega
theorem KZ {n:Nat} (h:n < 18446744073709551616):Ok (H3 [] (n:Int)) λr=>r.length=vsz n:=by
 unfold H3;rw [D4];refine⟨by rfl,?_⟩;unfold bb;refine T2 (λk v=>∃ (m:Nat) (l:List UInt8),m=k/\m < 18446744073709551616/\l.length + vsz m=vsz n/\v=((m:Int),l)) ?_ ⟨n,[],rfl,h,by simp,rfl⟩ (by omega);rintro k v ⟨m,l,rfl,hm,hj,rfl⟩;have h10:=Eu h;have hp:=Pg m;dsimp only;have e:(m:Int) / 2 ^ 7=((m / 128:Nat):Int):=by omega
 have hb:=IntKind.wrap_u8 (BitVec.toNat (BitVec.ofInt IntKind.u8.bits (wu8 (m:Int)) ||| BitVec.ofInt IntKind.u8.bits 128):Int);have hb2:0<=bits .or .u8 (wu8 (m:Int)) 128/\bits .or .u8 (wu8 (m:Int)) 128 < 256:=by
  unfold bits;rw [IntKind.wrap_u8];omega
 have hu:=fZ (m:Int);simp only [W7,W6,e,A7,D4,A4,C9,B5,B8,a2W,a2U];refine⟨λh1=>⟨hb2,⟨by unfold LIM;omega,by unfold LEN;omega⟩,m / 128,by omega,m / 128,_,rfl,by omega,?_,rfl⟩,λh1=>⟨hu,⟨by unfold LIM;omega,by unfold LEN;omega⟩,?_⟩⟩
 ·rw [Pe (by omega)] at hj;simp;omega
 ·rw [Pd (by omega)] at hj;simp;omega
def fsz (n:Nat):Nat:=1 + vsz n + n
theorem Je {n:Nat} (h:n < 18446744073709551616):fsz n<=n + 11:=by have:=Eu h;unfold fsz;omega
theorem wD {n:Nat} (h:n < 4611686018427387904):gV (n:Int)=some (fsz n:Int):=by
 have h1:=Eu (n:=n) (by omega);have w1:D7 (n:Int)=(n:Int):=J4 (by omega) (by omega);have w2:A9 (1 + (vsz n:Int))=1 + (vsz n:Int):=C8 (by omega) (by omega);have w3:A9 (1 + (vsz n:Int) + (n:Int))=1 + (vsz n:Int) + (n:Int):=C8 (by omega) (by omega);refine J3.1 ?_;simp only [gV,w1,Wp (n:=n) (by omega),w2,w3,A7,A5,A4,a2W,a2U];refine⟨λh=>by omega,λ_=>?_⟩;unfold fsz;omega
theorem iX {n:Nat} (h:n < 4611686018427387904):K0 (n:Int)=some (fsz n:Int):=by
 have h1:=Eu (n:=n) (by omega);have w1:D7 (n:Int)=(n:Int):=J4 (by omega) (by omega);have w2:A9 (1 + (vsz n:Int))=1 + (vsz n:Int):=C8 (by omega) (by omega);have w3:A9 (1 + (vsz n:Int) + (n:Int))=1 + (vsz n:Int) + (n:Int):=C8 (by omega) (by omega);obtain⟨r,hr,hl⟩:=KZ (n:=n) (by omega);refine J3.1 ?_;simp only [K0,fJ,w1,hr,hl,w2,w3,A7,A5,A4,a2W,a2U];refine⟨λh=>by omega,λ_=>?_⟩;unfold fsz;omega
variable {md:Int}
abbrev StD:=A8
noncomputable def Jf (l:List UInt8):KD:=(H4 l).getD (Vector.replicate 32 (0:UInt8))
theorem Jg {l:List UInt8} (h:l.length < 140737488350000):H4 l=some (Jf l):=by
 obtain⟨r,e,_⟩:=oN h;unfold Jf;rw [e];rfl
def GK (n:Nat) (e:ED):Prop:=e.1=Jf e.2.1/\e.2.1.length<=10000/\e.2.2.2.2.1=(gR e.2.1).1.2.2.1/\e.2.2.2.2.2.2.2.2.2.length<=n
def wO (n:Nat) (l:List ED):Prop:=l.length<=n/\(∀ e ∈ l,GK n e)/\(l.map λe=>e.1).Nodup
def CfV (md:Int) (c:D9):Prop:=c.2.2.2.2.2.2.2.2.2.2.2=md/\c.2.2.2.2.2.2.2.1<=9223372036854775807/\c.2.2.2.2.2.2.2.2.1<=9223372036854775807
def StV (md:Int) (n:Nat) (s:StD):Prop:=CfV md s.1/\KY s.2.1/\wO n s.2.2.2.2.2.1/\s.2.2.2.2.2.2.length<=1025
theorem GK.mono {n m:Nat} {e:ED} (h:GK n e) (k:n<=m):GK m e:=⟨h.1,h.2.1,h.2.2.1,a3w h.2.2.2 k⟩
theorem wO.mono {n m:Nat} {l:List ED} (h:wO n l) (k:n<=m):wO m l:=⟨a3w h.1 k,λe he=>(h.2.1 e he).mono k,h.2.2⟩
theorem StV.mono {n m:Nat} {s:StD} (h:StV md n s) (k:n<=m):StV md m s:=⟨h.1,h.2.1,h.2.2.1.mono k,h.2.2.2⟩
theorem wO.sub {n:Nat} {l m:List ED} (h:wO n l) (k:m.Sublist l):wO n m:=
 ⟨a3w k.length_le h.1,λe he=>h.2.1 e (k.subset he),(k.map _).nodup h.2.2⟩
def GL (s:StD) (c:List KD):StD:=(s.1,s.2.1,s.2.2.1,s.2.2.2.1,s.2.2.2.2.1,s.2.2.2.2.2.1,c)
def ZG (s:StD) (l:List ED):StD:=(s.1,s.2.1,s.2.2.1,s.2.2.2.1,s.2.2.2.2.1,l,s.2.2.2.2.2.2)
theorem StV.c {n:Nat} {s:StD} (h:StV md n s) {c:List KD} (hc:c.length<=1025):StV md n (GL s c):=⟨h.1,h.2.1,h.2.2.1,hc⟩
theorem StV.e {n:Nat} {s:StD} (h:StV md n s) {l:List ED} (hl:wO n l):StV md n (ZG s l):=⟨h.1,h.2.1,hl,h.2.2.2⟩
theorem yS {l:List KD} (hl:l.length<=1000000) (k:KD):Ok (Q4 l k) λr=>r= -1\/∃ i:Nat,r=(i:Int)/\i < l.length:=by
 unfold Q4 gj;refine D8 l (λi (_:Unit)=>(l,((l.length:Nat):Int),((i:Nat):Int),k)) (λ_ _=>True) (λi _ hi _=>?_) (λ_ _=>?_) (b0:=()) trivial (by omega)
 ·simp only [T3,D2 (i:=i) (by omega),A7,D4,A4,B5,B8,a2W,a2U,a2T];exact⟨λ_=>⟨by omega,λ_=> .inr ⟨i,rfl,hi⟩,λ_=>⟨(),trivial,trivial⟩⟩,λh=>by omega⟩
 ·simp only [T3,A7,D4,A4,B5,B8,a2W,a2U,a2T];exact⟨λh=>by omega,λ_=> .inl trivial⟩
theorem Ph {l:List KD} (hl:l.length<=1000000) (k:KD):Ans (V2 l k):=by
 unfold V2;exact H2 ((yS hl k).mono λ_ _=>trivial) λr=>⟨_,rfl,trivial⟩
theorem tn {n:Nat} (h:n<=1000000000):n * 32<=LIM/\n<=LEN:=by unfold LIM LEN;omega
theorem SM {l:List KD} (hl:l.length<=1025) (a:Int) (k:KD):Ok (ix l a k) λr=>r.1.length<=1025:=by
 unfold ix;rw [A5];refine(yS (by omega) k).mono λr hr=>?_;rcases hr with rfl | ⟨i,rfl,hi⟩
 ·simp only [A7,D4,A4,a2W,a2U,a2T,a2V,a3f,a3a,a2T,a26];refine⟨λh=>by omega,λ_=>⟨tn (by omega),tn (by omega),λh=>⟨by omega,by omega⟩,λh=>by omega⟩⟩
 ·simp only [A7,D4,A4,a2W,a2U,a2T,D2 (i:=i) (by omega),a2V,a3f,a3a,a2T,a26];exact⟨λh=>⟨by omega,tn (by omega),by omega,tn (by omega),tn (by omega),by omega⟩,λh=>by omega⟩
theorem SN {l:List KD} (hl:l.length<=1025) (k:KD):Ok (iy l k) λr=>r.1.length<=1025:=by
 unfold iy;rw [A5];refine(yS (by omega) k).mono λr hr=>?_;rcases hr with rfl | ⟨i,rfl,hi⟩
 ·simp only [A7,D4,A4,a2W,a2U,a2T];exact⟨λ_=>hl,λh=>by omega⟩
 ·simp only [A7,D4,A4,a2W,a2U,a2T,D2 (i:=i) (by omega),a2V,a3a,a2T,a26];exact⟨λh=>by omega,λh=>⟨by omega,tn (by omega),by omega,tn (by omega),by omega⟩⟩
theorem Pi {n:Nat} {s:StD} (h:StV md n s) (k:KD):Ok (ak s k) λr=>∃ c:List KD,c.length<=1025/\r=GL s c:=by
 unfold ak;rw [A5];exact(SM h.2.2.2 _ k).mono λr hr=>⟨_,rfl,r.1,hr,rfl⟩
theorem Jh {n:Nat} {s:StD} (h:StV md n s) (k:KD):Ok (U8 s k) λr=>∃ c:List KD,c.length<=1025/\r=GL s c:=by
 unfold U8;rw [A5];exact(SN h.2.2.2 k).mono λr hr=>⟨_,rfl,r.1,hr,rfl⟩
theorem Cz {n:Nat} {s:StD} (h:StV md n s) (k:KD):Ok (L5 s k) λr=>∃ c:List KD,c.length<=1025/\r=GL s c:=by
 unfold L5;rw [A7];refine⟨λ_=>⟨_,rfl,s.2.2.2.2.2.2,h.2.2.2,rfl⟩,λ_=>?_⟩;rw [A5];exact(Jh h k).mono λr hr=>⟨_,rfl,hr⟩
theorem CA {n:Nat} {s:StD} (h:StV md n s) (hn:n<=1000) (k:KD):Ok (S0 s k) λr=>∃ l:List ED,l.Sublist s.2.2.2.2.2.1/\r.1=ZG s l:=by
 have hl:=h.2.2.1.1;unfold S0;rw [RH (by omega),a2X,A7];refine⟨λ_=>⟨_,rfl,s.2.2.2.2.2.1,List.Sublist.refl _,rfl⟩,λh1=>?_⟩;have h1:=a3k h1;have hs:∃ e ∈ s.2.2.2.2.2.1,e.1=k:=by
  refine Classical.byContradiction λhc=>h1 ?_;rw [NZ λe he hk=>hc ⟨e,he,hk⟩];decide
 obtain⟨i,e1,_,hi,_⟩:=Gp hs;rw [e1,Kx (by omega) hi,a2X];exact⟨_,rfl,_,List.eraseIdx_sublist ..,rfl⟩
theorem AE (p:Int):aD p=some (decide (1<=p/\p<=15)):=by
 refine J3.1 ?_;unfold aD;simp only [A7,A4,a2W,a2U];exact⟨λh=>by simp [h],λh=>by rw [a2Y];omega⟩
theorem GM {l:List ED} {i:Nat} (h:i < l.length) {a:ED} (e:a.1=l[i].1):((l.set i a).map λe=>e.1)=l.map λe=>e.1:=by
 rw [a5q];refine List.ext_getElem (by simp) λj h1 h2=>?_;rw [List.getElem_set];split
 ·rename_i hj;subst hj;simp [e]
 ·rfl
theorem ZH {n:Nat} {s:StD} (h:StV md n s) (hn:n<=1000) {i p:Int} (hi:i < ((s.2.2.2.2.2.1.length:Nat):Int)):Ok (gm s i p) λr=>StV md (n + 1) r:=by
 unfold gm;rw [A7];refine⟨λ_=>⟨_,rfl,h.mono (by omega)⟩,λh0=>?_⟩;have h0:=a3k h0;obtain⟨j,rfl⟩:=a3P (by omega:(0:Int)<=i);have hj:j < s.2.2.2.2.2.1.length:=by omega
 have hk:=h.2.2.1.2.1 _ (a29 hj);have hl:=h.2.2.1.1;have hp:=hk.2.2.2;rw [AE,a2X,A7];refine⟨λ_=>⟨_,rfl,h.mono (by omega)⟩,λ_=>?_⟩;rw [a2S (by omega),C4,a2T,E0 hj,DM (by omega),a2X,A7];refine⟨λ_=>⟨_,rfl,h.mono (by omega)⟩,λ_=>?_⟩;rw [a2S (rY (by omega)),C4,a2S hj,C4,a2S ⟨by unfold LIM;omega,by unfold LEN;omega⟩,C4,a2S ⟨by unfold LIM;omega,by unfold LEN;omega⟩,C4,C4];refine⟨_,rfl,h.1,h.2.1,⟨?_,λe he=>?_,?_⟩,h.2.2.2⟩
 ·rw [a3G];omega
 ·rcases a3L he with he | rfl
  ·exact(h.2.2.1.2.1 e he).mono (by omega)
  ·exact⟨hk.1,hk.2.1,hk.2.2.1,by rw [a2V,a3f];omega⟩
 ·show((s.2.2.2.2.2.1.set j _).map λe=>e.1).Nodup;rw [GM hj]
  ·exact h.2.2.1.2.2
  ·rfl
end Go.Proofs.YtjbgdpjgfjnkbaaGreatDoor.Am
