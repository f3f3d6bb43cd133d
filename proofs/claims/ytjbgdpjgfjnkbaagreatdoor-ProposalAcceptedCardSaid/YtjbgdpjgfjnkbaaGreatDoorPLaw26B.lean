/- The statements about layer 26 hold of plain data: what is built is accepted. No conditions. -/
import Derived.Test.YtjbgdpjgfjnkbaaGreatDoorQBB
import Derived.Test.YtjbgdpjgfjnkbaaGreatDoorQBC
namespace Go.Proofs.YtjbgdpjgfjnkbaaGreatDoor.Am
open Go
variable {md:Int}
theorem Wz {l:List (List UInt8)} (h:l.length<=1000000) (hb:∀ b ∈ l,b.length<=1000000):iD l=some (l.map Jf):=by
 refine J3.1 ?_;unfold iD lO;refine D8 l (λi (v:List KD)=>(l,((l.length:Nat):Int),((i:Nat):Int),v)) (λi v=>v=(l.take i).map Jf) (λi v hi hv=>?_) (λv hv=>?_) (b0:=[]) rfl (by omega)
 ·have hr:=hb _ (a29 hi);have hv':v.length<=l.length:=by rw [hv,a3d,a26];omega
  unfold eH;dsimp only;rw [a2S (by omega:(i:Int) < ((l.length:Nat):Int)),E8,a2S (by omega:(0:Int)<=(i:Int)/\(i:Int) < ((l.length:Nat):Int)),C4,a2T,E0 hi,Jg (by omega),a2X,a2S (tn (by omega)),C4,A4,B5,D2 (by omega)];exact⟨_,rfl,by rw [hv,I2 hi,a3g];rfl⟩
 ·unfold eH;dsimp only;rw [a2Y (by omega),E3,A4,B8,hv,a3i]
theorem Th {l:List KD} (hl:l.length<=1000000) {k:KD} (hk:k ∉ l):V2 l k=some false:=by
 have e:Q4 l k=some (-1):=by
  refine J3.1 ?_;unfold Q4 gj;refine D8 l (λi (_:Unit)=>(l,((l.length:Nat):Int),((i:Nat):Int),k)) (λ_ _=>True) (λi _ hi _=>?_) (λ_ _=>?_) (b0:=()) trivial (by omega)
  ·have hne:l[i] ≠ k:=λe=>hk (e ▸ a29 hi);have e0:(l.getD i (Vector.replicate 32 (0:UInt8)):KD)=l[i]:=E0 hi _;simp only [T3,D2 (i:=i) (by omega),A7,D4,A4,B5,B8,a2W,a2U,a2T];exact⟨λ_=>⟨by omega,λe=>absurd (e0.symm.trans ((U.beq_iff (.arr 32 .byte) _ rfl _ k).1 e)) hne,λ_=>⟨(),trivial,trivial⟩⟩,λh=>by omega⟩
  ·simp only [T3,A7,D4,A4,B5,B8,a2W,a2U,a2T];exact⟨λh=>by omega,λ_=>trivial⟩
 unfold V2;rw [e,a2X];rfl
theorem GW {l:List KD} (h:l.length<=1000000) (hn:l.Nodup):dG l=some true:=by
 refine J3.1 ?_;unfold dG jw;refine D8 l (λi (_:Unit)=>(l,l,((l.length:Nat):Int),((i:Nat):Int))) (λ_ _=>True) (λi _ hi _=>?_) (λ_ _=>?_) (b0:=()) trivial (by omega)
 ·have hk:l[i] ∉ l.take i:=λhm=>by
   obtain⟨j,hj,e⟩:=List.mem_take_iff_getElem.1 hm;have:=(List.getElem_inj hn).1 e;omega
  unfold aB;dsimp only;rw [a2S (by omega:(i:Int) < ((l.length:Nat):Int)),E8,a2S (by omega:(0:Int)<=(i:Int)/\(i:Int) < ((l.length:Nat):Int)),C4,a2S (by omega),C4,a2T,E0 hi,Th (by rw [a26];omega) hk,a2X,E3,A4,B5,D2 (by omega)];exact⟨(),rfl,trivial⟩
 ·unfold aB;dsimp only;rw [a2Y (by omega),E3,A4,B8]
theorem GX {mg v:Int} (h:0<=mg->v<=mg) (h2:mg<=9223372036854775807):Ok (M6 mg v) (· =true):=by
 unfold M6;rw [A7];refine⟨λ_=>nu,λhm=>?_⟩;have hm:=a3k hm;rw [J4 (by omega) (by omega),a2S (h (by omega)),E8];exact nu
theorem GY {n:Nat} {s:StD} (h:StV md n s) (hn:n<=500) {B:List (List UInt8)} (hB:B.Sublist ((jX s.2.2.2.2.2.1).map λe=>e.2.1)) (hl:B.length<=1000) (hb:∀ r ∈ B,r.length<=10000) {R:List D0} (hR:R=(lC s.2.1.1 s.2.1.2.2.2.2 B).2) (h0:∀ r ∈ R,r.1=0) {mg:Int} (hg:0<=mg->(sK B).sum<=mg) (hm:mg<=9223372036854775807):Ok (V0 mg 0 ((B.length:Nat):Int) 0 s R B) (· =true):=by
 have hRl:R.length=B.length:=by rw [hR,mG]
 have hE:=h.2.2.1.1;have hkeys:=(AL h hB).2;unfold V0;refine D8 B (λi (v:Int)=>(mg,v,((B.length:Nat):Int),((i:Nat):Int),s,R,B)) (λi v=>0<=mg->v=(sK (B.take i)).sum) (λi v hi hv=>?_) (λv hv=>?_) (b0:=0) (λ_=>by simp [sK]) (by omega)
 ·have hr:=hb _ (a29 hi);have hi2:i < R.length:=by omega
  obtain⟨j,e1,_,hj,_⟩:=Gp (hkeys _ (a29 hi));have hz:=h0 _ (a29 hi2);have eR:R[i]=(T7 (lC s.2.1.1 s.2.1.2.2.2.2 (B.take i)).1 s.2.1.2.2.2.2 B[i]).2:=by
   subst hR;exact GN hi
  have eg:R[i].2.2.2.1=(gR B[i]).1.2.2.1:=by rw [eR] at hz ⊢;exact Us hz
  unfold M7;dsimp only;rw [a2S (by omega:(i:Int) < ((B.length:Nat):Int)),E8,a2S (by omega:(0:Int)<=(i:Int)/\(i:Int) < ((B.length:Nat):Int)),C4,a2T,a2S hi,C4,E0 hi,Jg (by omega),a2X,RH (by omega),a2X,e1,a2Y (by omega),E3,a2S (by omega:(0:Int)<=(i:Int)/\(i:Int) < ((R.length:Nat):Int)),C4,a2S hi2,C4,E0 hi2,a2S hz,a3m,E3,C4,C4,A4,B5,D2 (by omega),eg];refine⟨_,rfl,λh1=>?_⟩;have hs:=EA hi;have hu:=(vv B[i]).2.2.1;have hnn:=CC (B.take i);have hle:=wE B (i + 1);have hgm:=hg h1;unfold ri at hu;rw [hv h1,hs,J4 (by omega) (by omega)]
 ·unfold M7;dsimp only;rw [a2Y (by omega),E3,C9];rw [a3i] at hv;exact GX (λh1=>by rw [hv h1];exact hg h1) hm
theorem EG (x0:List Int) (_:wfU (.sl (.int .i64)) x0) (z0:szU (.sl (.int .i64)) x0):R6 x0=some true:=by
 refine J3.1 ?_;unfold R6;rw [sf (yV z0),a2X,A7];refine⟨λ_=>nu,λ_=>?_⟩;rw [A5];refine(yZ x0).mono λr hr=>?_;obtain⟨s,mb,mg,q⟩:=r;obtain⟨⟨md,h⟩,h2,h3,h4⟩:=hr;dsimp only at h h2 h3 h4 ⊢;have hb:=pX h (mb:=mb) (mg:=mg) (by omega) (by omega);obtain⟨b1,b2,b3,b4⟩:=EE h (mb:=mb) (mg:=mg) (by omega) (by omega) (by omega) (by omega);have hj:=GS h (by omega) (mb:=mb) (mg:=mg) (by omega) (by omega) (by omega) (by omega);have hL:yX (eL s mb mg):=⟨by omega,λb hm=>by have:=hb.2 b hm;omega⟩;rw [sJ h (by omega) (by omega) (by omega),a2X,AI h hL (by omega),a2X,hj,a2S rfl,a3m,E3,Wz (by omega) (λb hm=>by have:=hb.2 b hm;omega),a2X,GW (by rw [a3d];omega) (AL h b4).1,a2X,a3m,E3,xz hL,a2X,a2Y (by omega),E3,Ey h.2.1.1.b h.2.1.2.2.2.2 ⟨by omega,λb hm=>by have:=hb.2 b hm;omega⟩,a2X];exact GY h (by omega) b4 (by omega) hb.2 rfl b3 b2 (by omega)
end Go.Proofs.YtjbgdpjgfjnkbaaGreatDoor.Am
