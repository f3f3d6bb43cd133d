/- What has left is said once. No conditions. -/
import Derived.Test.YtjbgdpjgfjnkbaaGreatDoorPLaw23B
namespace Go.Proofs.YtjbgdpjgfjnkbaaGreatDoor.Am
open Go
variable {md:Int}
theorem Sz{n:Nat}{s t:StD}{G:List KD}(h:StV md n s) (hn:n<=1000) (hG:G.length<=3000) (hc:EK s.2.2.2.2.2.1 G t.2.2.2.2.2.1):Ok (aP s.2.2.2.2.2.1 ((s.2.2.2.2.2.1.length:Nat):Int) 0 t G) (· =true):=by
 have hE:=h.2.2.1;have hl:=hE.1;obtain⟨c1,c2,c3⟩:=hc;generalize s.2.2.2.2.2.1=E at *
 have hl':t.2.2.2.2.2.1.length<=1000000:=by rw[c3];exact a6c (mG E G).length_le (by omega)
 unfold aP;refine C8 E (λi (_:Unit)=>(E,((E.length:Nat):Int),((i:Nat):Int),t,G)) (λ_ _=>True) (λi _ hi _=>?_) (λ_ _=>?_) (b0:=()) trivial (by omega)
 ·unfold V1;dsimp only;rw[a5H (by omega:(i:Int)<((E.length:Nat):Int)),D1,a5H (by omega:(0:Int)<=(i:Int)/\(i:Int)<((E.length:Nat):Int)),B7,a5J,C9 hi,IP hl',a5I,Xu (by omega),a5I];by_cases hg:E[i].1∈G
  ·have ha:atE t.2.2.2.2.2.1 E[i].1= -1:=xK λe he hk=>by
    rw[c3]at he;have:=(vX.1 he).2;rw[hk]at this;exact this hg
   rw[ha,a5H hg,show WA true (decide ((0:Int)<= -1))=false from rfl,D3,show decide ((0:Int)<= -1)=false from rfl,D3,A1,A8,C1 (by omega)];exact⟨(),rfl,trivial⟩
  ·have hm:E[i]∈t.2.2.2.2.2.1:=by rw[c3];exact vX.2 ⟨a5V hi,hg⟩
   obtain⟨j,hj,_,hjl,hk⟩:=xL (l:=t.2.2.2.2.2.1) (k:=E[i].1) ⟨_,hm,rfl⟩;have he:t.2.2.2.2.2.1[j]=E[i]:=by
    have hmem:t.2.2.2.2.2.1[j]∈E:=(mG E G).subset (c3▸a5V hjl);obtain⟨q,hq,e⟩:=a6O hmem;have:q=i:=by
     have h1:q<(E.map λe=>e.1).length:=by rw[a5X];exact hq
     have h2:i<(E.map λe=>e.1).length:=by rw[a5X];exact hi
     have:=(a75 (h₀:=h1) (h₁:=h2) hE.2.2).1 (by rw[a6J,a6J,e];exact hk);exact this
    subst this;exact e.symm
   rw[hj,a5N hg,a5H (by omega:(0:Int)<=(j:Int)),show WA false true=false from rfl,D3,D1,a5H (by omega),B7,a5J,C9 hjl,he,uW (by have:=(hE.2.1 _ (a5V hi)).2.2.2;omega),a5I,a6a,D3,A1,A8,C1 (by omega)];exact⟨(),rfl,trivial⟩
 ·unfold V1;dsimp only;rw[a5N (by omega),D3,C4];exact oz
theorem NJ(x0:List Int) (x1:Int) (_:wfU (.sl (.int .i64)) x0) (_:wfU (.int .i64) x1) (z0:szU (.sl (.int .i64)) x0) (_:szU (.int .i64) x1):Z9 x0 x1=some true:=by
 refine J1.1 ?_;unfold Z9;rw[rq (xW z0),a5I,A5];refine⟨λ_=>oz,λ_=>?_⟩;rw[A4];refine(ya x0).mono λr hr=>?_;obtain⟨md,h,b1,b2,b3⟩:=hr;rw[A4];refine(qh (n:=30) (by omega) (by omega)).mono λr4 h4=>?_;have k3:∀q∈r.2.1,q.length<=1000000:=λq hq=>by have:=b3 q hq;omega
 generalize B3 (r.1.2.2.1+1)=a;generalize B3 (r.1.2.2.2.1+r4)=b;rw[Jw h (by omega) (by omega) (by omega) k3,a5I];have hc:=LQ h r.2.1 r.2.2.1 a b;obtain⟨l1,l2,l3⟩:=Sv h (by omega) r.2.2.1 (by omega:r.2.1.length<=1000) a b;have hs:=Sr h.2.2.1.2.2 hc;have hl:=h.2.2.1.1;rw[a5K,a5K]at hs;rw[a5H (nZ (by omega)),B7,a5H (nZ (by omega)),B7,a5H (nZ (by rw[a5K];omega)),B7,JB (by rw[a5K,a5K];omega) hc.1,a5I,a6a,D3,D9 (by omega) (by rw[a5K,a5K];omega),a5H (by rw[a5K,a5K];omega),a6a,D3];exact Sz h (by omega) (by rw[a5K,a5K];omega) hc
end Go.Proofs.YtjbgdpjgfjnkbaaGreatDoor.Am
