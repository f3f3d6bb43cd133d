/- The statements about layer 26 hold of plain data: what is built, what is judged. No conditions. -/
import Derived.Test.YtjbgdpjgfjnkbaaGreatDoorQBB
import Derived.Test.YtjbgdpjgfjnkbaaGreatDoorQBC
namespace Go.Proofs.YtjbgdpjgfjnkbaaGreatDoor.Am
open Go
variable {md:Int}
theorem a2R {l:List (List UInt8)} (z:szU (.sl (.sl .byte)) l):∀ r ∈ l,r.length<=140737488351232:=by
 have hr:reachBytes=140737488351232:=rfl;intro r hm;have h2:r.length * 1<=reachBytes:=(z.2 r hm).1;omega
def PrB (v:Vector Int 2):Prop:=cQ v 0 0<=9223372036854775807/\cQ v 1 0<=9223372036854775807
theorem prB {a b:Int} (h1:a<=9223372036854775807) (h2:b<=9223372036854775807):PrB (Vector.push (Vector.push #v[] a) b):=⟨h1,h2⟩
theorem PF {n:Nat} {s:StD} (h:StV md n s) (hn:n<=500) {L:List (Vector Int 2)} (hL:∀ v ∈ L,PrB v) {c:Int} (hc:c=((L.length:Nat):Int)) (hl:L.length<=100):Ok (X4 c 0 s L) (· =true):=by
 subst hc;unfold X4;refine D8 L (λi (_:Unit)=>(((L.length:Nat):Int),((i:Nat):Int),s,L)) (λ_ _=>True) (λi _ hi _=>?_) (λ_ _=>?_) (b0:=()) trivial (by omega)
 ·obtain⟨h1,h2⟩:=hL _ (a29 hi);have hb:=(pX h (mb:=cQ L[i] 0 0) (mg:=cQ L[i] 1 0) h1 h2).1;unfold P7;dsimp only;rw [a2S (by omega:(i:Int) < ((L.length:Nat):Int)),E8,a2S (by omega:(0:Int)<=(i:Int)/\(i:Int) < ((L.length:Nat):Int)),C4,a2T,a2S hi,C4,E0 hi,sJ h hn h1 h2,a2X,yY h hn h1 h2,a2X,zG (by omega),a2X,a3m,E3,A4,B5,D2 (by omega)];exact⟨(),rfl,trivial⟩
 ·unfold P7;dsimp only;rw [a2Y (by omega),E3,C9];exact nu
theorem Li (x0:List Int) (x1 x2:Int) (_:wfU (.sl (.int .i64)) x0) (w1:wfU (.int .i64) x1) (w2:wfU (.int .i64) x2) (z0:szU (.sl (.int .i64)) x0) (_:szU (.int .i64) x1) (_:szU (.int .i64) x2):U1 x0 x1 x2=some true:=by
 have b1:=Jm w1;have b2:=Jm w2;refine J3.1 ?_;unfold U1;rw [sf (yV z0),a2X,A7];refine⟨λ_=>nu,λ_=>?_⟩;rw [A5];refine(yZ x0).mono λr hr=>?_;obtain⟨⟨md,h⟩,h2,h3,_⟩:=hr;refine PF h (by omega) (λv hv=>?_) rfl (by simp);simp only [a4c,a4H,or_false] at hv;rcases hv with rfl | rfl | rfl | rfl | rfl | rfl
 all_goals exact prB (by omega) (by omega)
theorem PG {n:Nat} {s:StD} (h:StV md n s) {l:List (List UInt8)} (hb:yX l) {L:List (Vector Int 2)} (hL:∀ v ∈ L,PrB v) {c a1 a2 a3 a4 a5 a6:Int} {l0:List (List (List UInt8))} (hc:c=((L.length:Nat):Int)) (hl:L.length<=100):Ok (X5 a1 a2 a3 a4 l a5 a6 c 0 s l0 L) (· = .inl (a1,a2,a3,a4,a5,A9 (a6 + 1),s,l0)):=by
 subst hc;unfold X5;refine D8 L (λi (_:Unit)=>(a1,a2,a3,a4,l,a5,a6,((L.length:Nat):Int),((i:Nat):Int),s,l0,L)) (λ_ _=>True) (λi _ hi _=>?_) (λ_ _=>?_) (b0:=()) trivial (by omega)
 ·obtain⟨h1,h2⟩:=hL _ (a29 hi);unfold P8;dsimp only;rw [a2S (by omega:(i:Int) < ((L.length:Nat):Int)),E8,a2S (by omega:(0:Int)<=(i:Int)/\(i:Int) < ((L.length:Nat):Int)),C4,a2T,a2S hi,C4,E0 hi,AI h hb h2,a2X,EB h hb h1 h2,a2X,a2S rfl,a3m,E3,A4,B5,D2 (by omega)];exact⟨(),rfl,trivial⟩
 ·unfold P8;dsimp only;rw [a2Y (by omega),E3,A4,B8]
theorem PH {n:Nat} {s:StD} (h:StV md n s) {K:List (List (List UInt8))} (hK:∀ l ∈ K,yX l) {c a1 a2 a3 a4:Int} (b1:a1<=9223372036854775807) (b2:a2<=9223372036854775807) (b3:a3<=9223372036854775807) (b4:a4<=9223372036854775807) (hc:c=((K.length:Nat):Int)) (hl:K.length<=100):Ok (X6 a1 a2 a3 a4 c 0 s K) (· =true):=by
 subst hc;unfold X6;refine D8 K (λi (_:Unit)=>(a1,a2,a3,a4,((K.length:Nat):Int),((i:Nat):Int),s,K)) (λ_ _=>True) (λi _ hi _=>?_) (λ_ _=>?_) (b0:=()) trivial (by omega)
 ·have hb:=hK _ (a29 hi);have hz:=hb.sum K[i].length;rw [a3i] at hz;unfold P9;dsimp only;rw [a2S (by omega:(i:Int) < ((K.length:Nat):Int)),E8,a2S (by omega:(0:Int)<=(i:Int)/\(i:Int) < ((K.length:Nat):Int)),C4,a2T,a2S hi,C4,E0 hi,xz hb,a2X,a2X];refine Ok.mono (PG h hb (L:=[_,_,_,_,_]) (λv hv=>?_) rfl (a3n rfl)) λr hr=>?_
  ·have w:A9 ((pZ K[i]:Int) - 1)=(pZ K[i]:Int) - 1:=C8 (by omega) (by omega);simp only [a4c,a4H,or_false] at hv;rcases hv with rfl | rfl | rfl | rfl | rfl
   all_goals exact prB (by omega) (by omega)
  ·rw [hr,B5,D2 (by omega)];exact⟨(),rfl,trivial⟩
 ·unfold P9;dsimp only;rw [a2Y (by omega),E3,C9];exact nu
theorem Lj (x0:List Int) (x1:List (List UInt8)) (x2 x3:Int) (_:wfU (.sl (.int .i64)) x0) (_:wfU (.sl (.sl .byte)) x1) (w2:wfU (.int .i64) x2) (w3:wfU (.int .i64) x3) (z0:szU (.sl (.int .i64)) x0) (z1:szU (.sl (.sl .byte)) x1) (_:szU (.int .i64) x2) (_:szU (.int .i64) x3):U2 x0 x1 x2 x3=some true:=by
 have b2:=Jm w2;have b3:=Jm w3;have s1:=a2R z1;refine J3.1 ?_;unfold U2;rw [sf (yV z0),a2X,A7];refine⟨λ_=>nu,λ_=>?_⟩;rw [A7];refine⟨λ_=>nu,λhl=>?_⟩;have hl:=a3k hl;rw [A5];refine(yZ x0).mono λr hr=>?_;obtain⟨⟨md,h⟩,h2,h3,h4⟩:=hr;rw [A5];refine(Ut h4 (by omega) (by omega) h.2.1 (by omega) (by omega)).mono λr5 h5=>?_;obtain⟨_,_,m1,m2⟩:=h5;have hb:=pX h (mb:=r.2.1) (mg:=r.2.2.1) (by omega) (by omega);rw [yY h (by omega) (by omega) (by omega),a2X,a2S (yW (by omega)),C4,a2S (yW (by omega)),C4];refine PH h (λl hm=>?_) b2.2 b3.2 (by omega) (by omega) rfl (by simp);simp only [a4c,a4H,or_false] at hm;rcases hm with rfl | rfl | rfl | rfl
 ·exact⟨by omega,s1⟩
 ·exact⟨by omega,λb hb=>by have:=m2 b hb;omega⟩
 ·exact⟨by omega,λb hm=>by have:=hb.2 b hm;omega⟩
 ·refine⟨by rw [a2V];omega,λb hb=>?_⟩;rcases List.mem_append.1 hb with hb | hb
  ·have:=m2 b hb;omega
  ·exact s1 b hb
end Go.Proofs.YtjbgdpjgfjnkbaaGreatDoor.Am
