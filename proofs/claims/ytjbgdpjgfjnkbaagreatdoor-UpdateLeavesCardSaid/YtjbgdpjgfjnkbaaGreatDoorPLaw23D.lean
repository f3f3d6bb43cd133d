/- What a block leaves runs. No conditions. -/
import Derived.Test.YtjbgdpjgfjnkbaaGreatDoorPLaw23B
namespace Go.Proofs.YtjbgdpjgfjnkbaaGreatDoor.Am
open Go
variable {md:Int}
theorem Sw{s:StD}{l:List ED}(h:∀e∈l,vU s e=false):dr s l=[]:=by
 unfold dr;rw[List.filter_eq_nil_iff.2 λe he=>by rw[h e he];decide];rfl
theorem Sx{n:Nat}{s:StD}(h:StV md n s) (hn:n<=1000) (raws:List (List UInt8)) (rs:List B1) (a b:Int):Ok (U7 (sf s raws rs a b).1 ((sf s raws rs a b).1.2.2.2.2.2.1.map λe=>e.2.1)) (· =true):=by
 have hu:StV md n (nk s raws rs a b).1:=(qg (h.u a b) raws rs (min raws.length rs.length)).1;have hp:=hu.pur;have hv:=LO h raws rs a b;have hr1:RQ ((sf s raws rs a b).1.2.2.2.2.2.1.map λe=>e.2.1):=by
  refine⟨by rw[a5X];have:=hv.2.2.1.1;omega,λq hq=>?_⟩;obtain⟨e,he,rfl⟩:=List.mem_map.1 hq;have:=(hv.2.2.1.2.1 e he).2.1;omega
 have hrun:=EM (sv (nk s raws rs a b).1).1 (sv (nk s raws rs a b).1).1.2.2.2.2.2.1 (sv (nk s raws rs a b).1).1.2.1.1;have hE:(sf s raws rs a b).1=(Hf (sv (nk s raws rs a b).1).1).1:=rfl;rw[Hh hp]at hE;have e1:(sf s raws rs a b).1.2.2.2.2.2.1=(og (sv (nk s raws rs a b).1).1 (sv (nk s raws rs a b).1).1.2.1.1 (sv (nk s raws rs a b).1).1.2.2.2.2.2.1).2.2:=by rw[hE];rfl
 have e2:(sf s raws rs a b).1.2.1.2.1=(og (sv (nk s raws rs a b).1).1 (sv (nk s raws rs a b).1).1.2.1.1 (sv (nk s raws rs a b).1).1.2.2.2.2.2.1).1:=by rw[hE];rfl
 have e3:(sf s raws rs a b).1.2.1.1=(sv (nk s raws rs a b).1).1.2.1.1:=by rw[hE];rfl
 have e4:(sf s raws rs a b).1.2.1.2.2.2.2=(sv (nk s raws rs a b).1).1.2.1.2.2.2.2:=by rw[hE];rfl
 have hlate:∀e∈(sf s raws rs a b).1.2.2.2.2.2.1,vU (sf s raws rs a b).1 e=false:=λe he=>by
  have e5:vU (sf s raws rs a b).1 e=vU (nk s raws rs a b).1 e:=by rw[hE];rfl
  rw[e5];rw[e1]at he;have he:=(xj (sv (nk s raws rs a b).1).1 (sv (nk s raws rs a b).1).1.2.2.2.2.2.1 (sv (nk s raws rs a b).1).1.2.1.1).2.subset he;obtain⟨m1,m2⟩:=vX.1 (show e∈oe (nk s raws rs a b).1.2.2.2.2.2.1 (dr (nk s raws rs a b).1 (nk s raws rs a b).1.2.2.2.2.2.1)from he);cases hx:vU (nk s raws rs a b).1 e with
  |false=>rfl
  |true=>exact absurd (List.mem_map.2 ⟨e,List.mem_filter.2 ⟨m1,hx⟩,rfl⟩) m2
 have hgone:=a2M (s:=(sf s raws rs a b).1) (l:=(sf s raws rs a b).1.2.2.2.2.2.1) (by have:=hv.2.2.1.1;omega);rw[Sw hlate]at hgone;have hlen:(sf s raws rs a b).1.2.1.2.1.1.length<=256:=hv.2.1.2.1.1.1;have hstr:X7 (sf s raws rs a b).1.2.1.1 (sf s raws rs a b).1.2.1.2.2.2.2 ((sf s raws rs a b).1.2.2.2.2.2.1.map λe=>e.2.1)=some ((sf s raws rs a b).1.2.1.2.1,0,0):=by
  rw[CI hv.2.1.1.b hv.2.1.2.2.2.2 hr1,RL,e3,e4,e1,hrun.1,e2];rw[e3,e4,e1];exact hrun.2
 unfold U7;rw[hstr,a5I,a5H rfl,D1];dsimp only;rw[xf (by omega),a5I,D1,hgone,a5I,a5H (by simp),D1];exact oz
theorem Sy{n:Nat}{s:StD}(h:StV md n s) (hn:n<=1000){raws:List (List UInt8)}{rs:List B1}(hb:ScB s raws rs) (a b:Int):Ok (U9 raws (sf s raws rs a b).1 rs ((sf s raws rs a b).1.2.2.2.2.2.1.map λe=>e.2.1)) (· =true):=by
 obtain⟨b1,b2,b3⟩:=hb;have hv:=LO h raws rs a b;have hc2:=Sx h hn raws rs a b;have hp:=(StV.pur (s:=(nk s raws rs a b).1) (qg (h.u a b) raws rs (min raws.length rs.length)).1);have hgone:∀i,i<raws.length->i<rs.length->∀e∈(sf s raws rs a b).1.2.2.2.2.2.1,e.1≠xV (raws.getD i []):=λi h1 h2 e he=>by
  have he:e∈(Hf (sv (nk s raws rs a b).1).1).1.2.2.2.2.2.1:=he;rw[Hh hp]at he;have he:=(xj (sv (nk s raws rs a b).1).1 (sv (nk s raws rs a b).1).1.2.2.2.2.2.1 (sv (nk s raws rs a b).1).1.2.1.1).2.subset he;have he:=(mG _ _).subset (show e∈oe (nk s raws rs a b).1.2.2.2.2.2.1 (dr (nk s raws rs a b).1 (nk s raws rs a b).1.2.2.2.2.2.1)from he);exact Hm (h.u a b) raws rs (min raws.length rs.length) i (by omega) e he
 generalize (sf s raws rs a b).1=t at *
 generalize (t.2.2.2.2.2.1.map λe=>e.2.1)=R at *
 have hl:=hv.2.2.1.1;unfold U9 gN;refine C8 raws (λi (_:Unit)=>(raws,((raws.length:Nat):Int),((i:Nat):Int),t,rs,R)) (λ_ _=>True) (λi _ hi _=>?_) (λ_ _=>?_) (b0:=()) trivial (by omega)
 ·have hq:=b3 _ (a5V hi);have hg:=hgone i hi;rw[C9 hi]at hg;unfold U8;dsimp only;rw[a5H (by omega:(i:Int)<((raws.length:Nat):Int)),D1,a5H (by omega:(0:Int)<=(i:Int)/\(i:Int)<((raws.length:Nat):Int)),B7,A5];refine⟨λhr=>?_,λ_=>?_⟩
  ·have hr:i<rs.length:=by have:=a5P hr;omega
   rw[a5H (by omega:(0:Int)<=(i:Int)/\(i:Int)<((rs.length:Nat):Int)),B7,a5J,a5H hr,B7,A5];refine⟨λ_=>?_,λ_=>?_⟩
   ·rw[C9 hi,GP (by omega),a5I,IP (by omega),a5I,xK (hg hr),show decide ((0:Int)<= -1)=false from rfl,D3,A1,A8,C1 (by omega)];exact⟨(),rfl,trivial⟩
   ·rw[A1,A8,C1 (by omega)];exact⟨(),rfl,trivial⟩
  ·rw[A1,A8,C1 (by omega)];exact⟨(),rfl,trivial⟩
 ·unfold U8;dsimp only;rw[a5N (by omega),D3,C4];exact hc2
theorem NI(x0:List Int) (x1:Int) (_:wfU (.sl (.int .i64)) x0) (_:wfU (.int .i64) x1) (z0:szU (.sl (.int .i64)) x0) (_:szU (.int .i64) x1):Z8 x0 x1=some true:=by
 refine J1.1 ?_;unfold Z8;rw[rq (xW z0),a5I,A5];refine⟨λ_=>oz,λ_=>?_⟩;rw[A4];refine(ya x0).mono λr hr=>?_;obtain⟨md,h,hb⟩:=hr;have hb':=hb;obtain⟨b1,b2,b3⟩:=hb';rw[A4];refine(qh (n:=30) (by omega) (by omega)).mono λr4 h4=>?_;have k3:∀q∈r.2.1,q.length<=1000000:=λq hq=>by have:=b3 q hq;omega
 generalize B3 (r.1.2.2.1+1)=a;generalize B3 (r.1.2.2.2.1+r4)=b;rw[Jw h (by omega) (by omega) (by omega) k3,a5I];have hc:=LQ h r.2.1 r.2.2.1 a b;have hc1:=Sy h (by omega) hb a b;have hv:=LO h r.2.1 r.2.2.1 a b;have hlE:=h.2.2.1.1;generalize (sf r.1 r.2.1 r.2.2.1 a b).2=q at *
 obtain⟨t,ht⟩:∃t,t=(sf r.1 r.2.1 r.2.2.1 a b).1:=⟨_,rfl⟩;rw[<-ht]at hc hc1 hv;have hl:=hv.2.2.1.1;show Ok (aO r.2.1 (sf r.1 r.2.1 r.2.2.1 a b).1.2.2.2.2.2.1 ((((sf r.1 r.2.1 r.2.2.1 a b).1.2.2.2.2.2.1).length:Nat):Int) 0 r.1 (sf r.1 r.2.1 r.2.2.1 a b).1 r.2.2.1 []) _;rw[<-ht];unfold aO;obtain⟨E,hE⟩:∃E,E=t.2.2.2.2.2.1:=⟨_,rfl⟩;rw[<-hE]at hc hc1 hl⊢;refine C8 E (λi (v:List (List UInt8))=>(r.2.1,E,((E.length:Nat):Int),((i:Nat):Int),r.1,t,r.2.2.1,v)) (λi v=>v=(E.take i).map λe=>e.2.1) (λi v hi hv=>?_) (λv hv=>?_) (b0:=[]) rfl (by omega)
 ·have hin:=a5V hi;have hm:∃e∈r.1.2.2.2.2.2.1,e.1=E[i].1:=⟨E[i],by
   generalize E[i]=x at hin⊢;rw[hc.2.2]at hin;exact(mG _ _).subset hin,rfl⟩
  obtain⟨j,hj,_⟩:=xL hm;have hvl:v.length<=1000:=by rw[hv,a5X,a5T];omega
  unfold V0;dsimp only;rw[a5H (by omega:(i:Int)<((E.length:Nat):Int)),D1,a5H (by omega:(0:Int)<=(i:Int)/\(i:Int)<((E.length:Nat):Int)),B7,a5J,C9 hi,IP (by omega),a5I,hj,a5N (by omega),D3,a5H (BI (by omega)),B7,A1,A8,C1 (by omega)];exact⟨_,rfl,by rw[hv,E4 hi,a53];rfl⟩
 ·have hv:v=(E.take E.length).map λe=>e.2.1:=hv;rw[a52]at hv;unfold V0;dsimp only;rw[a5N (by omega),D3,C4,hv];exact hc1
end Go.Proofs.YtjbgdpjgfjnkbaaGreatDoor.Am
