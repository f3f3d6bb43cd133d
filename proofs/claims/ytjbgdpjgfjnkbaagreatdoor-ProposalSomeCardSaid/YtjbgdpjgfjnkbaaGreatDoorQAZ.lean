/- Texts laid together: PDecB, PReap, PBld. No conditions. -/
import Derived.Test.YtjbgdpjgfjnkbaaGreatDoorQAY
namespace Go.Proofs.YtjbgdpjgfjnkbaaGreatDoor.Am
open Go
theorem Pv {b:List UInt8} (hb:b.length<=1000000000):J2 b=some ((nr b).1.map toF,(((nr b).2.1:Nat):Int),(((nr b).2.2:Nat):Int)):=by
 rw [<-(FSm.fields_same b hb).1];exact oi b (by omega)
theorem GR {b:List UInt8}:∀ f ∈ (nr b).1.map toF,f.2.2.2.length<=b.length:=λf hf=>by
 obtain⟨g,hg,rfl⟩:=List.mem_map.1 hf;exact(pU b g hg).2.2
theorem a1n {v0:List UInt8} {j:Nat} {v55:Int} {b0 b1:D5} {b2:Vector (Vector UInt8 32) 4} {l0:List A6} (hl:l0.length=7) (hj:j < 4) (hb:(l0.getD (j + 3) E4).2.2.2.length=32):Ok (bD v0 (j:Int) v55 0 b0 b1 b2 l0) λr=>∃ c,r= .inl (v0,A9 (v55 + 1),b0,b1,c,l0):=by
 have w3:A9 ((j:Int) + 3)=((j + 3:Nat):Int):=by rw [C8 (by omega) (by omega)];omega
 unfold bD;refine T2 (λn v=>∃ (i:Nat) (c:Vector (Vector UInt8 32) 4),i + n=32/\v=(v0,(j:Int),v55,(i:Int),b0,b1,c,l0)) ?_ ⟨0,b2,rfl,rfl⟩ (n:=32) (by omega);rintro n v ⟨i,c,hi,rfl⟩;unfold cI;dsimp only;rw [w3,A7];refine⟨λh=>?_,λh=>?_⟩
 ·have h:=a23 h;simp only [a2T,hb];rw [a2S (by omega),C4,a2S (by omega),C4,a2S (by omega),C4,a2S (by omega),C4,a2S (by omega),C4,a2S (by omega),C4,A4,B5,D2 (by omega)];exact⟨n - 1,by omega,i + 1,_,by omega,rfl⟩
 ·rw [A4,B8];exact⟨c,rfl⟩
theorem a1o {v0:List UInt8} {b0 b1:D5} {b2:Vector (Vector UInt8 32) 4} {l0:List A6} (hl:l0.length=7):Ans (bE v0 0 b0 b1 b2 l0):=by
 unfold bE;refine T2 (λn v=>∃ (i:Nat) (c:Vector (Vector UInt8 32) 4),i + n=4/\v=(v0,(i:Int),b0,b1,c,l0)) ?_ ⟨0,b2,rfl,rfl⟩ (n:=4) (by omega);rintro n v ⟨i,c,hi,rfl⟩;unfold cJ;dsimp only;rw [A7];refine⟨λh=>?_,λh=>?_⟩
 ·have h:=a23 h;have w3:A9 ((i:Int) + 3)=((i + 3:Nat):Int):=by rw [C8 (by omega) (by omega)];omega
  rw [w3,a2S (by omega),C4,a2S (by rw [a2T];omega),C4,A7];refine⟨λ_=>?_,λhb=>?_⟩
  ·rw [A4,B8];trivial
  ·have hb:(l0.getD (i + 3) E4).2.2.2.length=32:=by
    rw [a2T] at hb;have:=hb;simp only [a2Z,a2W] at this;omega
   refine(a1n hl (by omega) hb).mono λr hr=>?_;obtain⟨c',rfl⟩:=hr;rw [B5,D2 (by omega)];exact⟨n - 1,by omega,i + 1,c',by omega,rfl⟩
 ·unfold cH;rw [C9,A5];refine(wa _).mono λr2 _=>H2 (vC _ _) λr3=>⟨_,rfl,trivial⟩
theorem zE {b:List UInt8} (hb:b.length<=1000000000):Ans (az b):=by
 unfold az;rw [Pv hb,a2X];generalize ((nr b).1.map toF)=l0;rw [Ans,A7];refine⟨λ_=>⟨_,rfl,trivial⟩,λ_=>?_⟩;rw [A7];refine⟨λ_=>⟨_,rfl,trivial⟩,λh7=>?_⟩;have hl:l0.length=7:=by
  simp only [a2Z,a2W] at h7;omega
 unfold gX;dsimp only;refine T2 (λn v=>∃ (i:Nat),i + n=3/\v=(b,(i:Int),_,_,l0)) ?_ ⟨0,rfl,rfl⟩ (n:=3) (by omega);rintro n v ⟨i,hi,rfl⟩;unfold cL;dsimp only;rw [A7];refine⟨λh=>?_,λh=>?_⟩
 ·have h:=a23 h;rw [a2S (by omega),C4,a2S (by rw [a2T];omega),C4,A7];refine⟨λ_=>?_,λ_=>?_⟩
  ·rw [A4,B8];trivial
  ·rw [A4,B5,D2 (by omega)];exact⟨n - 1,by omega,i + 1,by omega,rfl⟩
 ·unfold cK;rw [C9,a2S (by omega),C4,a2S (by omega),C4,a2S (by omega),C4,a2S (by omega),C4,a2S (by omega),C4,a2S (by omega),C4];exact(a1o hl).mono λr _=>trivial
theorem Pw {raw:List UInt8} {a b c:Int} {d e f g:Vector UInt8 32} {h:D5} {l:List (List UInt8)} {n:Nat} (hl:za n l) (hn:n<=10000000):Ok (bq raw a b c d e f g h l) λr=>za n r.1.2:=by
 have nil:za n []:=⟨by simp,λx hx=>by cases hx⟩;unfold bq;rw [A5];refine(CB (b:=(h,l)) hl hn).mono λr3 _=>H2 (vC _ _) λr4=>?_;rw [A7];refine⟨λ_=>⟨_,rfl,nil⟩,λ_=>?_⟩;rw [A5];refine(Jq (b:=(h,l)) hl hn).mono λr5 _=>?_;rw [A7];exact⟨λ_=>⟨_,rfl,nil⟩,λ_=>⟨_,rfl,hl⟩⟩
theorem SZ {raw:List UInt8} (hr:raw.length<=10000000):Ok (eD raw) λr=>za raw.length r.1.2:=by
 have nil:za raw.length []:=⟨by simp,λx hx=>by cases hx⟩;have hbyt:=GR (b:=raw);have hln:=sE raw;unfold eD;rw [A7];refine⟨λ_=>⟨_,rfl,nil⟩,λ_=>?_⟩;rw [Pv (by omega),a2X];have hln':((nr raw).1.map toF).length<=1024:=by rw [a3d];exact hln
 generalize ((nr raw).1.map toF)=l0 at hbyt hln';rw [A7];refine⟨λ_=>⟨_,rfl,nil⟩,λ_=>?_⟩;rw [A7];refine⟨λ_=>⟨_,rfl,nil⟩,λh0=>?_⟩;have h0:=a3k h0;dsimp only at h0 ⊢;have hp:0 < l0.length:=by omega
 have hd:=hbyt (l0.getD 0 E4) (by rw [E0 hp];exact a29 hp);rw [a2S (by omega),C4,a2S hp,C4];refine H2 (zE (by omega)) λr2=>?_;rw [A7];refine⟨λ_=>⟨_,rfl,nil⟩,λ_=>?_⟩;rw [a2S (by omega),C4,a2T,a3i];have hdl:(l0.drop 1).length<=1024:=by rw [a3a];omega
 have hdb:∀ f ∈ l0.drop 1,f.2.2.2.length<=raw.length:=λf hf=>hbyt f (a4O hf);generalize l0.drop 1=l1 at hdl hdb;unfold jU;refine D8 l1 (λi (v:List (List UInt8))=>(raw,l1,((l1.length:Nat):Int),((i:Nat):Int),_,_,_,_,_,_,_,r2.1,v)) (λi v=>v.length=i/\∀ x ∈ v,x.length<=raw.length) (λi v hi hv=>?_) (λv hv=>?_) (b0:=[]) ⟨rfl,λx hx=>by cases hx⟩ (by omega)
 ·unfold bt;dsimp only;rw [a2S (by omega:(i:Int) < ((l1.length:Nat):Int)),E8,a2S (by omega:(0:Int)<=(i:Int)/\(i:Int) < ((l1.length:Nat):Int)),C4,a2T,E0 hi,a2S (yW (by omega)),C4,A4,B5,D2 (by omega)];refine⟨_,rfl,by rw [a2V,a3f];omega,λx hx=>?_⟩;rcases List.mem_append.1 hx with hx | hx
  ·exact hv.2 x hx
  ·rw [List.mem_singleton.1 hx];exact hdb _ (a29 hi)
 ·unfold bt;dsimp only;rw [a2Y (by omega),E3,C9];exact(Pw ⟨by omega,hv.2⟩ hr).mono λr hr=>hr
theorem za.list {n:Nat} {l:List (List UInt8)} (h:za n l) (hn:n<=10000000):yX l:=⟨h.1,λb hb=>by have:=h.2 b hb;omega⟩
theorem zF {t:dN} {b:G9} {m:Int} {n:Nat} (h:za n b.2) (hn:n<=10000000):Ans (aA t b 1 m):=by
 have c3:∀ v,Ans (N9 m v t b b.1):=λv=>by
  unfold N9;rw [Ans,A7];refine⟨λ_=>⟨_,rfl,trivial⟩,λ_=>?_⟩;rw [A7];refine⟨λ_=>⟨_,rfl,trivial⟩,λ_=>?_⟩;rw [A7];refine⟨λ_=>⟨_,rfl,trivial⟩,λ_=>?_⟩;rw [A7];refine⟨λ_=>⟨_,rfl,trivial⟩,λ_=>?_⟩;refine H2 (vB (by have:=h.1;omega) λx hx=>by have:=h.2 x hx;omega) λr1=>?_;rw [A7];refine⟨λ_=>⟨_,rfl,trivial⟩,λ_=>?_⟩;rw [A7];refine⟨λ_=>⟨_,rfl,trivial⟩,λ_=>?_⟩;rw [xz (h.list hn),a2X,A7];exact⟨λ_=>⟨_,rfl,trivial⟩,λ_=>⟨_,rfl,trivial⟩⟩
 have c2:∀ v,Ans (O0 1 m v t b b.1):=λv=>by
  unfold O0;rw [Ans,A7];refine⟨λ_=>⟨_,rfl,trivial⟩,λ_=>?_⟩;rw [a2Y (by decide:¬ (1:Int)=0),a3r,C4,A7];refine⟨λ_=>⟨_,rfl,trivial⟩,λ_=>?_⟩;rw [A7];exact⟨λ_=>c3 _,λ_=>c3 _⟩
 have c1:∀ v,Ans (I6 1 m v t b b.1):=λv=>by
  unfold I6;rw [Ans,A7];refine⟨λ_=>⟨_,rfl,trivial⟩,λ_=>?_⟩;rw [A7];exact⟨λ_=>c2 _,λ_=>c2 _⟩
 unfold aA;rw [Ans,A7];refine⟨λ_=>c1 _,λ_=>?_⟩;rw [A7];refine⟨λ_=>c1 _,λ_=>?_⟩;rw [A7];exact⟨λ_=>c1 _,λ_=>c1 _⟩
theorem Uv {t:dN} {tm p:Int} {l:List (List UInt8)} {n:Nat} (h:za n l) (hn:n<=10000000):Ok (de t tm p l) λb=>b.2=l:=by
 have hl:=h.1;unfold de;refine H2 (vB (by omega) λx hx=>by have:=h.2 x hx;omega) λr1=>?_;unfold ln;refine D8 l (λi (v:List (List UInt8))=>(l,((l.length:Nat):Int),((i:Nat):Int),_,_,_,_,_,_,_,_,_,_,_,_,_,_,v)) (λi v=>v=l.take i) (λi v hi hv=>?_) (λv hv=>?_) (b0:=[]) rfl (by omega)
 ·have hb:=h.2 _ (a29 hi);have hv':v.length<=l.length:=by rw [hv,a26];omega
  unfold dz;dsimp only;rw [a2S (by omega:(i:Int) < ((l.length:Nat):Int)),E8,a2S (by omega:(0:Int)<=(i:Int)/\(i:Int) < ((l.length:Nat):Int)),C4,a2T,E0 hi,a2S (Uu (by omega)),C4,a2S (yW (by omega)),C4,A4,B5,D2 (by omega)];exact⟨_,rfl,by rw [hv,I2 hi]⟩
 ·unfold dz;dsimp only;rw [a2Y (by omega),E3,A4,B8];show v=l;rw [hv,a3i]
def raws (l:List o5):List (List UInt8):=l.map λe=>e.2.1
def lF (free:Bool) (b g:Int) (e:o5):Bool:=decide ((fsz e.2.1.length:Int)<=b) && (free || decide (e.2.2.2.2.1<=g))
theorem AF {r:E6} {e:o5} (hb:a1e e) (h0:0<=r.1) (h1:r.1<=9223372036854775807) (hg0:0<=r.2.1) (hg1:r.2.1 < 18446744073709551616) (he:0<=e.2.2.2.2.1) :
  al r e=some (if lF r.2.2 r.1 r.2.1 e then((r.1 - fsz e.2.1.length,(if r.2.2 then r.2.1 else r.2.1 - e.2.2.2.2.1),r.2.2),true) else(r,false)):=by
 obtain⟨b,g,free⟩:=r;dsimp only at h0 h1 hg0 hg1 ⊢;have hb1:=hb.1;have hf:=Je (n:=e.2.1.length) (by omega);have hsz:=iX (n:=e.2.1.length) (by omega);have w1:(fsz e.2.1.length:Int)<=b->A9 (b - (fsz e.2.1.length:Int))=b - (fsz e.2.1.length:Int):=λh=>C8 (by omega) (by omega);have w2:e.2.2.2.2.1<=g->D7 (g - e.2.2.2.2.1)=g - e.2.2.2.2.1:=λh=>J4 (by omega) (by omega);refine J3.1 ?_;cases free
 ·simp only [al,ab,hsz,a3r,E8,A7,A5,A4,a2W,a2U];refine⟨λh3=>?_,λh3=>⟨λh5=>?_,λh5=>?_⟩⟩
  ·rw [a25 (by simp [lF];omega)] <;> rfl
  ·rw [a25 (by simp [lF];omega)] <;> rfl
  ·rw [a28 (by simp [lF];omega),w1 (by omega),w2 (by omega)] <;> rfl
 ·simp only [al,ab,hsz,a3m,E3,A7,A5,A4,a2W,a2U];refine⟨λh3=>?_,λh3=>?_⟩
  ·rw [a25 (by simp [lF];omega)] <;> rfl
  ·rw [a28 (by simp [lF];omega),w1 (by omega)] <;> rfl
variable {md:Int}
abbrev BSt:=Int × Int × o8 × List (List UInt8)
def nt (free:Bool) (p:Int) (s:BSt) (e:ED):Bool:=lF free s.1 s.2.1 e && decide ((T7 s.2.2.1 p e.2.1).2.1=0)
def qG (free:Bool) (p:Int) (s:BSt) (e:ED):BSt:=(s.1 - fsz e.2.1.length,(if free then s.2.1 else s.2.1 - e.2.2.2.2.1),(T7 s.2.2.1 p e.2.1).1,s.2.2.2 ++ [e.2.1])
def lD (free:Bool) (p:Int) (s:BSt) (e:ED):BSt:=if nt free p s e=true then qG free p s e else s
def iY (free:Bool) (p:Int) (s:BSt) (l:List ED):BSt:=l.foldl (lD free p) s
def nh (s:StD) (mb mg:Int):BSt:=(mb,max mg 0,s.2.1.1,[])
def eL (s:StD) (mb mg:Int):List (List UInt8):=if mb < 0\/mg < -1 then [] else(iY (decide (mg < 0)) s.2.1.2.2.2.2 (nh s mb mg) (jX s.2.2.2.2.2.1)).2.2.2
def ZL (i:Nat) (s:BSt):Prop:=(0<=s.1/\s.1<=9223372036854775807)/\okU s.2.1/\xu s.2.2.1/\s.2.2.2.length<=i/\∀ r ∈ s.2.2.2,r.length<=10000
theorem GK.gas {n:Nat} {e:ED} (h:GK n e):okU e.2.2.2.2.1:=by
 rw [h.2.2.1];exact(vv e.2.1).2.2.1
theorem wO.b {n:Nat} {l:List ED} (h:wO n l) (hn:n<=1000):VH l:=⟨by have:=h.1;omega,λe he=>⟨by have:=(h.2.1 e he).2.1;omega,by have:=(h.2.1 e he).2.2.2;omega⟩⟩
theorem ZM {g:o8} (h:xu g) (p:Int) (raw:List UInt8):xu (T7 g p raw).1:=Ji (p:=p) (l:=[raw]) h
theorem Px {free:Bool} {p:Int} {s:BSt} {e:ED} {i n:Nat} (h:ZL i s) (he:GK n e):ZL (i + 1) (lD free p s e):=by
 obtain⟨h1,h2,h3,h4,h5⟩:=h;unfold lD;split
 ·rename_i ht;unfold nt lF at ht;simp only [a24,a3Y,a2W] at ht;have hg:=he.gas;unfold okU at hg h2;refine⟨⟨by unfold qG;dsimp only;omega,by unfold qG;dsimp only;omega⟩,?_,ZM h3 _ _,?_,λr hr=>?_⟩
  ·unfold qG okU;dsimp only;split
   ·exact h2
   ·rename_i hf;rcases ht.1.2 with hx | hx
    ·exact absurd hx hf
    ·omega
  ·unfold qG;dsimp only;rw [List.length_append,List.length_singleton];omega
  ·unfold qG at hr;rcases List.mem_append.1 hr with hr | hr
   ·exact h5 r hr
   ·rw [List.mem_singleton.1 hr];exact he.2.1
 ·exact⟨h1,h2,h3,by omega,h5⟩
theorem mq {free:Bool} {p:Int} {s:BSt} {l:List ED} {i:Nat} (h:i < l.length):iY free p s (l.take (i + 1))=lD free p (iY free p s (l.take i)) l[i]:=by
 unfold iY;rw [I2 h,a40];rfl
theorem pW {free:Bool} {p:Int} {s:BSt} {l:List ED} {n:Nat} (h:ZL 0 s) (hl:∀ e ∈ l,GK n e):∀ i:Nat,i<=l.length->ZL i (iY free p s (l.take i))
 | 0,_=>h
 | i + 1,hi=>by
  rw [mq (by omega)];exact Px (pW h hl i (by omega)) (hl _ (a29 _))
theorem se {n:Nat} {s:StD} (h:StV md n s) {mb mg:Int} (h0:0<=mb) (h1:mb<=9223372036854775807) (h2:mg<=9223372036854775807):ZL 0 (nh s mb mg):=
 ⟨⟨h0,h1⟩,⟨by unfold nh;dsimp only;omega,by unfold nh;dsimp only;omega⟩,h.2.1.1,Nat.le_refl _,λr hr=>by cases hr⟩
theorem pX {n:Nat} {s:StD} (h:StV md n s) {mb mg:Int} (h1:mb<=9223372036854775807) (h2:mg<=9223372036854775807):(eL s mb mg).length<=n/\∀ r ∈ eL s mb mg,r.length<=10000:=by
 unfold eL;split
 ·exact⟨by simp,λr hr=>by cases hr⟩
 ·rename_i hm;have hl:∀ e ∈ jX s.2.2.2.2.2.1,GK n e:=λe he=>h.2.2.1.2.1 e (lA.1 he);have hi:=pW (free:=decide (mg < 0)) (p:=s.2.1.2.2.2.2) (se h (mb:=mb) (mg:=mg) (by omega) h1 h2) hl _ (a3j _);rw [a3i] at hi;refine⟨?_,hi.2.2.2.2⟩;have:=hi.2.2.2.1;rw [rZ] at this;have:=h.2.2.1.1;omega
theorem sJ {n:Nat} {s:StD} (h:StV md n s) (hn:n<=500) {mb mg:Int} (h1:mb<=9223372036854775807) (h2:mg<=9223372036854775807):U0 s mb mg=some (eL s mb mg):=by
 unfold U0 eL;by_cases c1:mb < 0
 ·rw [a2S c1,E8,a28 (.inl c1)]
 by_cases c2:mg < -1
 ·rw [a2Y c1,E3,a2S c2,E8,a28 (.inr c2)]
 rw [a2Y c1,E3,a2Y c2,E3,a25 (by omega),Pr h.2.1.1.b.2.2.2,a2X,Cf (h.2.2.1.b (by omega)),a2X,J4 (by omega) (by omega)];refine J3.1 ?_;have hl:∀ e ∈ jX s.2.2.2.2.2.1,GK n e:=λe he=>h.2.2.1.2.1 e (lA.1 he);have hlen:(jX s.2.2.2.2.2.1).length<=n:=by rw [rZ];exact h.2.2.1.1
 generalize jX s.2.2.2.2.2.1=l at hl hlen;have hinit:=se h (mb:=mb) (mg:=mg) (by omega) h1 h2;unfold nv;refine D8 l (λi (v:BSt)=>(v.1,mg,v.2.1,((l.length:Nat):Int),((i:Nat):Int),s,v.2.2.1,v.2.2.2,l)) (λi v=>v=iY (decide (mg < 0)) s.2.1.2.2.2.2 (nh s mb mg) (l.take i)) (λi v hi hv=>?_) (λv hv=>?_) (b0:=nh s mb mg) rfl (by omega)
 ·have hb:=pW (free:=decide (mg < 0)) (p:=s.2.1.2.2.2.2) hinit hl i (by omega);rw [<-hv] at hb;have he:=hl _ (a29 hi);have heg:=he.gas;have her:=he.2.1;obtain⟨b1,b2,b3,b4,b5⟩:=hb;unfold okU at b2 heg;have nxt:∀ {v':BSt},lD (decide (mg < 0)) s.2.1.2.2.2.2 v l[i]=v'->Ok (some (Sum.inl (v'.1,mg,v'.2.1,((l.length:Nat):Int),A9 ((i:Int) + 1),s,v'.2.2.1,v'.2.2.2,l)):Option ((Int × Int × Int × Int × Int × StD × o8 × List (List UInt8) × List ED) ⊕ List (List UInt8))) (Nxt (λr=>r=(iY (decide (mg < 0)) s.2.1.2.2.2.2 (nh s mb mg) l).2.2.2) λz=>∃ b':BSt,z=(b'.1,mg,b'.2.1,((l.length:Nat):Int),(((i + 1:Nat):Nat):Int),s,b'.2.2.1,b'.2.2.2,l)/\b'=iY (decide (mg < 0)) s.2.1.2.2.2.2 (nh s mb mg) (l.take (i + 1))):=fun {v'} e=>by
   rw [A4,B5,D2 (by omega)];exact⟨v',rfl,by rw [mq hi,<-hv,e]⟩
  have skip:nt (decide (mg < 0)) s.2.1.2.2.2.2 v l[i]=false->lD (decide (mg < 0)) s.2.1.2.2.2.2 v l[i]=v:=λe=>by unfold lD;rw [e];rfl
  have take:nt (decide (mg < 0)) s.2.1.2.2.2.2 v l[i]=true->lD (decide (mg < 0)) s.2.1.2.2.2.2 v l[i]=qG (decide (mg < 0)) s.2.1.2.2.2.2 v l[i]:=λe=>by unfold lD;rw [a28 e]
  have c2':∀ {x1:Int} {x2 x3 x4:Bool},lF (decide (mg < 0)) v.1 v.2.1 l[i]=true->Ok (cW v.1 mg v.2.1 (fsz l[i].2.1.length:Int) ((l.length:Nat):Int) (i:Int) x1 x2 x3 x4 s v.2.2.1 l[i] v.2.2.2 l) (Nxt (λr=>r=(iY (decide (mg < 0)) s.2.1.2.2.2.2 (nh s mb mg) l).2.2.2) λz=>∃ b':BSt,z=(b'.1,mg,b'.2.1,((l.length:Nat):Int),(((i + 1:Nat):Nat):Int),s,b'.2.2.1,b'.2.2.2,l)/\b'=iY (decide (mg < 0)) s.2.1.2.2.2.2 (nh s mb mg) (l.take (i + 1))):=fun {x1} {x2} {x3} {x4} hf=>by
   have hf':=hf;unfold lF at hf';simp only [a24,a3Y,a2W] at hf';unfold cW;rw [OS b3.b h.2.1.2.2.2.2 (by omega),a2X,A7];refine⟨λhc=>?_,λhc=>?_⟩
   ·refine nxt (skip ?_);unfold nt;rw [hf,a5e];simpa using hc
   ·have ht:nt (decide (mg < 0)) s.2.1.2.2.2.2 v l[i]=true:=by
     unfold nt;rw [hf,a5e];simpa using hc
    have ec:=take ht;rw [A7];refine⟨λhm=>?_,λhm=>?_⟩
    ·have hm:=a23 hm;rw [a2S (yW (by omega)),C4,C8 (by omega) (by omega),J4 (by omega) (by omega)];have en:qG (decide (mg < 0)) s.2.1.2.2.2.2 v l[i]=(v.1 - fsz l[i].2.1.length,v.2.1 - l[i].2.2.2.2.1,(T7 v.2.2.1 s.2.1.2.2.2.2 l[i].2.1).1,v.2.2.2 ++ [l[i].2.1]):=by
      unfold qG;rw [a2Y (by omega:¬ mg < 0)];rfl
     exact nxt (ec.trans en)
    ·have hm:=a3k hm;rw [a2S (yW (by omega)),C4,C8 (by omega) (by omega)];have en:qG (decide (mg < 0)) s.2.1.2.2.2.2 v l[i]=(v.1 - fsz l[i].2.1.length,v.2.1,(T7 v.2.2.1 s.2.1.2.2.2.2 l[i].2.1).1,v.2.2.2 ++ [l[i].2.1]):=by
      unfold qG;rw [a2S (by omega:mg < 0)];rfl
     exact nxt (ec.trans en)
  unfold gC;dsimp only;rw [a2S (by omega:(i:Int) < ((l.length:Nat):Int)),E8,a2S (by omega:(0:Int)<=(i:Int)/\(i:Int) < ((l.length:Nat):Int)),C4,a2T,a2S hi,C4,a2Y (by omega),E3,E0 hi,wD (by omega),a2X,A7];refine⟨λhs=>?_,λhs=>?_⟩
  ·have hs:=a23 hs;refine nxt (skip ?_);unfold nt lF;rw [a2Y (by omega)];rfl
  have hs:=a3k hs;rw [A7];refine⟨λhm=>?_,λhm=>c2' ?_⟩
  ·have hm:=a23 hm;rw [A7];refine⟨λhg=>?_,λhg=>c2' ?_⟩
   ·have hg:=a23 hg;refine nxt (skip ?_);unfold nt lF;rw [a2Y (by omega:¬ mg < 0),a2Y (by omega:¬ l[i].2.2.2.2.1<=v.2.1),a5g,Bool.and_false];rfl
   ·have hg:=a3k hg;unfold lF;rw [a2S (by omega),a2S (by omega:l[i].2.2.2.2.1<=v.2.1),Bool.or_true];rfl
  ·have hm:=a3k hm;unfold lF;rw [a2S (by omega),a2S (by omega:mg < 0),Bool.true_or];rfl
 ·unfold gC;dsimp only;rw [a2Y (by omega),E3,A4,B8];show v.2.2.2=_;rw [hv,a3i]
end Go.Proofs.YtjbgdpjgfjnkbaaGreatDoor.Am
