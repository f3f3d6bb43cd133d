/- The statements about layer 23 hold of plain data: exact states and keys. No conditions. -/
import Derived.Test.YtjbgdpjgfjnkbaaGreatDoorPLaw23R
namespace Go.Proofs.YtjbgdpjgfjnkbaaGreatDoor.Am
open Go
variable {md:Int}
theorem yb(s:StD):∀(l:List ED) (g:o8),og s g (og s g l).2.2=((og s g l).1,[],(og s g l).2.2)
 |[],_=>rfl
 |e::l,g=>by
  by_cases h:oZ s g e=true
  ·rw[uo l h];dsimp only;rw[uo _ h,yb s l]
  ·rw[xi l h];exact yb s l g
theorem Jx(s:StD) (g:o8) (c:List KD) (es:List ED):∀(l:List ED) (g0:o8),og (tJ (stR s g c) es) g0 l=og s g0 l
 |[],_=>rfl
 |e::l,g0=>by
  have hp:oZ (tJ (stR s g c) es) g0 e=oZ s g0 e:=rfl;show(if oZ (tJ (stR s g c) es) g0 e=true then _ else _)=(if oZ s g0 e=true then _ else _)
  rw[hp];split
  ·have:=Jx s g c es l (N9 g0 s.2.1.2.2.2.2 e.2.1).1;have e2:(tJ (stR s g c) es).2.1.2.2.2.2=s.2.1.2.2.2.2:=rfl;rw[e2,this]
  ·rw[Jx s g c es l g0]
theorem NE{n:Nat}{s:StD}(h:StV md n s):Hf (Hf s).1=((Hf s).1,[]):=by
 have hv:=h.rec;rw[Hh hv,Hh h];dsimp only;rw[Jx];have e1:(tJ (stR s (og s s.2.1.1 s.2.2.2.2.2.1).1 (cachR s (og s s.2.1.1 s.2.2.2.2.2.1).2.1)) (og s s.2.1.1 s.2.2.2.2.2.1).2.2).2.1.1=s.2.1.1:=rfl;have e2:(tJ (stR s (og s s.2.1.1 s.2.2.2.2.2.1).1 (cachR s (og s s.2.1.1 s.2.2.2.2.2.1).2.1)) (og s s.2.1.1 s.2.2.2.2.2.1).2.2).2.2.2.2.2.1=(og s s.2.1.1 s.2.2.2.2.2.1).2.2:=rfl;rw[e1,e2,yb];dsimp only;have e3:∀t:StD,cachR t []=t.2.2.2.2.2.2:=λt=>by unfold cachR;split <;> rfl
 rw[e3];rfl
theorem NF{n:Nat}{s:StD}(h:StV md n s) (hn:n<=1000){raws:List (List UInt8)}{rs:List B1}(hb:ScB s raws rs){L:List (Vector Int 2)}(hL:∀v∈L,(0<=L0 v 0 0/\L0 v 0 0<=((raws.length:Nat):Int))/\0<=L0 v 1 0/\L0 v 1 0<=((rs.length:Nat):Int)){c:Int}(hc:c=((L.length:Nat):Int)) (hl:L.length<=100):Ok (aj raws c 0 s rs L) (· =true):=by
 subst hc;obtain⟨b1,b2,b3⟩:=hb;unfold aj;refine C8 L (λi (_:Unit)=>(raws,((L.length:Nat):Int),((i:Nat):Int),s,rs,L)) (λ_ _=>True) (λi _ hi _=>?_) (λ_ _=>?_) (b0:=()) trivial (by omega)
 ·obtain⟨⟨h1,h2⟩,h3,h4⟩:=hL _ (a5V hi);have k1:(raws.take (Int.toNat (L0 L[i] 0 0))).length<=1000000:=by rw[a5T];omega
  have k2:(rs.take (Int.toNat (L0 L[i] 1 0))).length<=1000000:=by rw[a5T];omega
  have k3:∀r∈raws.take (Int.toNat (L0 L[i] 0 0)),r.length<=1000000:=λr hr=>by have:=b3 r (a6V hr);omega
  have hv:=qg h (raws.take (Int.toNat (L0 L[i] 0 0))) (rs.take (Int.toNat (L0 L[i] 1 0))) (min (raws.take (Int.toNat (L0 L[i] 0 0))).length (rs.take (Int.toNat (L0 L[i] 1 0))).length);unfold T6;dsimp only;rw[a5H (by omega:(i:Int)<((L.length:Nat):Int)),D1,a5H (by omega:(0:Int)<=(i:Int)/\(i:Int)<((L.length:Nat):Int)),B7,a5J,a5H hi,B7,C9 hi,a5H (by omega),B7,a5H (by omega),B7,Sl h hn k1 k2 k3,a5I,B7,B7,Sm h hn k1 k2 k3,a5I,ny hv.1 hn,a5I,a6a,D3,dt (by omega),a5I,a6a,D3,A1,A8,C1 (by omega)];exact⟨(),rfl,trivial⟩
 ·unfold T6;dsimp only;rw[a5N (by omega),D3,C4];exact oz
theorem Jy(x0:List Int) (x1 x2:Int) (_:wfU (.sl (.int .i64)) x0) (_:wfU (.int .i64) x1) (_:wfU (.int .i64) x2) (z0:szU (.sl (.int .i64)) x0) (_:szU (.int .i64) x1) (_:szU (.int .i64) x2):Y5 x0 x1 x2=some true:=by
 refine J1.1 ?_;unfold Y5;rw[rq (xW z0),a5I,A5];refine⟨λ_=>oz,λ_=>?_⟩;rw[A4];refine(ya x0).mono λr hr=>?_;obtain⟨md,h,hb⟩:=hr;have hb':=hb;obtain⟨b1,b2,b3⟩:=hb';rw[C1 (by omega),C1 (by omega),A4];refine(qh (by omega) (by omega)).mono λr4 h4=>?_;rw[A4];refine(qh (by omega) (by omega)).mono λr5 h5=>?_;refine NF h (by omega) hb (λv hv=>?_) rfl (a58 rfl);simp only[a7l,a73,or_false]at hv;rcases hv with rfl|rfl|rfl
 ·exact⟨⟨a7N _,a8b _⟩,a7N _,a8b _⟩
 ·exact⟨⟨h4.1,(by show r4<=_;omega)⟩,a7N _,a8b _⟩
 ·exact⟨⟨a7N _,a8b _⟩,h5.1,(by show r5<=_;omega)⟩
theorem NG(x0:List Int) (x1 x2:Int) (_:wfU (.sl (.int .i64)) x0) (_:wfU (.int .i64) x1) (_:wfU (.int .i64) x2) (z0:szU (.sl (.int .i64)) x0) (_:szU (.int .i64) x1) (_:szU (.int .i64) x2):Z7 x0 x1 x2=some true:=by
 refine J1.1 ?_;unfold Z7;rw[rq (xW z0),a5I,A5];refine⟨λ_=>oz,λ_=>?_⟩;rw[A4];refine(ya x0).mono λr hr=>?_;obtain⟨md,h,hb⟩:=hr;rw[A4];refine(qh (n:=6) (by omega) (by omega)).mono λr4 h4=>?_;rw[A4];refine(qh (n:=60) (by omega) (by omega)).mono λr5 h5=>?_;have h':StV md 12 (r.1.1,r.1.2.1,B3 (r.1.2.2.1+r4),B3 (r.1.2.2.2.1+r5),r.1.2.2.2.2):=⟨h.1,h.2.1,h.2.2.1,h.2.2.2⟩;generalize (r.1.1,r.1.2.1,B3 (r.1.2.2.1+r4),B3 (r.1.2.2.2.1+r5),r.1.2.2.2.2)=t at h'⊢;have hk:(sv t).2.length<=1000000:=by
  unfold sv dr;dsimp only;rw[a5X];exact a6c (a7s _ _) (by have:=h'.2.2.1.1;omega)
 rw[Xt h' (by omega),a5I,Xs h' (by omega),a5I,ny h'.pur (by omega),a5I,D1,dt hk,a5I,D1];exact oz
theorem Hj(x0:List Int) (_:wfU (.sl (.int .i64)) x0) (z0:szU (.sl (.int .i64)) x0):W3 x0=some true:=by
 refine J1.1 ?_;unfold W3;rw[rq (xW z0),a5I,A5];refine⟨λ_=>oz,λ_=>?_⟩;rw[A4];refine(ya x0).mono λr hr=>?_;obtain⟨md,h,hb⟩:=hr;have hk:=EJ h;rw[EH h (by omega),a5I,LN h (by omega),a5I,EH h.rec (by omega),a5I,NE h,ny h.rec (by omega),a5I,D1,dt (by omega),a5I,D1,a5I,D1,a5H (by simp),D1];exact oz
theorem BN{r:E3}(h1:r.2.2.2.1=[]) (h2:r.2.2.2.2.1.length<=1000000) (h3:r.2.2.2.2.2.1.length<=1000000) (h4:r.2.2.2.2.2.2.1.length<=1000000) (h5:r.2.2.2.2.2.2.2.1=[]) (h6:r.2.2.2.2.2.2.2.2.1=[]):X9 r r=some true:=by
 have hb:∀x:KD,U.beq (.arr 32 .byte) x x=true:=λx=>(U.beq_iff (.arr 32 .byte) _ rfl x x).2 rfl;have b1:U.beq (.arr 32 .byte) r.2.1 r.2.1=true:=hb _;have b2:U.beq (.arr 32 .byte) r.2.2.2.2.2.2.2.2.2.2 r.2.2.2.2.2.2.2.2.2.2=true:=hb _;have k1:D7 r.2.2.2.1 r.2.2.2.1=some true:=dt (by rw[h1];exact a6p _);have k5:D7 r.2.2.2.2.2.2.2.1 r.2.2.2.2.2.2.2.1=some true:=dt (by rw[h5];exact a6p _);have k6:Z4 r.2.2.2.2.2.2.2.2.1 r.2.2.2.2.2.2.2.2.1=some true:=BM (by rw[h6];exact Nat.zero_lt_succ _);unfold X9;rw[a5H rfl,D1,b1,D1,a5H rfl,D1,k1,a5I,D1,dt h2,a5I,D1,dt h3,a5I,D1,dt h4,a5I,D1,k5,a5I,D1,k6,a5I,D1,a5H rfl,D1,b2]
theorem NH{n:Nat}{s:StD}(h:StV md n s) (hn:n<=1000){raws:List (List UInt8)}(rs:List B1) (hl:raws.length<=1000) (a b:Int):X9 (sf s raws rs a b).2 (sf s raws rs a b).2=some true:=by
 have h1:=qg (h.u a b) raws rs (min raws.length rs.length);have h2:=Hi (s:=(nk s raws rs a b).1) _ h1.1.2.2.1.1;have h3:=EJ (StV.pur h1.1);refine BN rfl ?_ ?_ ?_ rfl rfl
 ·exact a6c h2 (by omega)
 ·exact a6c h3 (by omega)
 ·exact a6c h1.2 (by omega)
theorem Jz(x0:List Int) (x1 x2:Int) (_:wfU (.sl (.int .i64)) x0) (_:wfU (.int .i64) x1) (_:wfU (.int .i64) x2) (z0:szU (.sl (.int .i64)) x0) (_:szU (.int .i64) x1) (_:szU (.int .i64) x2):Y6 x0 x1 x2=some true:=by
 refine J1.1 ?_;unfold Y6;rw[rq (xW z0),a5I,A5];refine⟨λ_=>oz,λ_=>?_⟩;rw[A4];refine(ya x0).mono λr hr=>?_;obtain⟨md,h,b1,b2,b3⟩:=hr;rw[A4];refine(qh (n:=4) (by omega) (by omega)).mono λr4 h4=>?_;rw[A4];refine(qh (n:=40) (by omega) (by omega)).mono λr5 h5=>?_;have k3:∀q∈r.2.1,q.length<=1000000:=λq hq=>by have:=b3 q hq;omega
 generalize B3 (B3 (r.1.2.2.1+1)+r4)=a;generalize B3 (B3 (r.1.2.2.2.1+r5)-5)=b;rw[Jw h (by omega) (by omega) (by omega) k3,a5I,Zz h (by omega) (by omega) (by omega) k3,a5I,ny (LO h _ _ _ _) (by omega),a5I,D1,NH h (by omega) _ (by omega),a5I,D1];exact oz
end Go.Proofs.YtjbgdpjgfjnkbaaGreatDoor.Am
