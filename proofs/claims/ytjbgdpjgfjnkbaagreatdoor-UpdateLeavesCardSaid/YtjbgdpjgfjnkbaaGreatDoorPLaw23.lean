/- The statements about layer 23 hold of plain data: the program does what the references do. No conditions. -/
import Derived.Test.YtjbgdpjgfjnkbaaGreatDoorQAG
import Derived.Test.YtjbgdpjgfjnkbaaGreatDoorQAH
import Derived.Test.YtjbgdpjgfjnkbaaGreatDoorQAF
import Derived.Test.YtjbgdpjgfjnkbaaGreatDoorFAllKmempoollaw23
namespace Go.Proofs.YtjbgdpjgfjnkbaaGreatDoor.Am
open Go
variable {md:Int}
theorem oz:Ok (F9.bind λr=>some r) (· =true):=⟨true,by rw[uM];rfl,rfl⟩
theorem rq{l:List Int}(hl:l.length<=140737488351232):N1 [l]=some (decide (160<((l.length:Nat):Int))):=by
 refine J1.1 ?_;unfold N1 mu;refine C8 [l] (λi (a:Int)=>(a,[l],(([l].length:Nat):Int),((i:Nat):Int))) (λi a=>a=(if i=0 then 0 else((l.length:Nat):Int))) (λi a hi ha=>?_) (λa ha=>?_) (b0:=0) rfl (by simp)
 ·have h0:i=0:=by simpa using hi
  subst h0;rw[a5W rfl]at ha;subst ha;unfold eH;dsimp only;rw[a5H (by simp),D1,a5H (by simp),B7,A1,A8,C1 (by omega)];refine⟨_,rfl,?_⟩;rw[a5U (by omega),a5J];show B3 (0+((l.length:Nat):Int))=_;rw[D9] <;> omega
 ·have ha:a=((l.length:Nat):Int):=ha;subst ha;unfold eH;dsimp only;rw[a5N (by omega),D3,A1,B5]
def ScB(_s:StD) (raws:List (List UInt8)) (rs:List B1):Prop:=raws.length<=20/\rs.length<=20/\∀r∈raws,r.length<=10000
theorem ND{L:List Int}{k:Int}{b0 b2:StD}{b1:CP}{l0:List (List UInt8)}(h:StV md 12 b2) (hs:ky L k b1) (h0:0<=k) (hk:k<100000) (hl:l0.length<=12) (hb:∀r∈l0,r.length<=10000):Ok (dn b0 b1 b2 l0) λr=>StV md 12 r.1/\ScB r.1 r.2.1 r.2.2.1:=by
 unfold dn;rw[A4];refine(Xm hs (by omega) (by omega) h.2.1 (by omega) (by omega)).mono λr3 h3=>?_;obtain⟨_,_,m1,m2⟩:=h3;have hlen:(l0++r3.2).length<=20:=by rw[a5K];omega
 have hall:∀r∈l0++r3.2,r.length<=10000:=λr hr=>by
  rcases List.mem_append.1 hr with hr|hr
  ·exact hb r hr
  ·have:=m2 r hr;omega
 rw[a5H (BI (by omega)),B7,A4];refine(CJ h.2.1 (raws:=l0++r3.2) ⟨by omega,λr hr=>by have:=hall r hr;omega⟩).mono λr4 h4=>?_;rw[A5];refine⟨λ_=>⟨_,rfl,h,by dsimp only;exact⟨by simp,by simp,λr hr=>by cases hr⟩⟩,λe=>?_⟩;obtain⟨f1,f2⟩:=h4 (by simpa using e);rw[f1,A4];refine(LI (a:=b2.2.1) h.2.1 (GR h.2.1.1)).mono λr5 h5=>⟨_,rfl,h.a h5,?_⟩;rw[f2];exact⟨hlen,by rw[nw];exact hlen,hall⟩
theorem ya(L:List Int):Ok (M0 L) λr=>∃md,StV md 12 r.1/\ScB r.1 r.2.1 r.2.2.1:=by
 unfold M0;rw[Zc,a5I,A4];refine(Wf (a39 L) (by omega) (by omega) (by omega) (by omega)).mono λr2 h2=>?_;obtain⟨hs,md,h⟩:=h2;have hE:=h.2.2.1;have hl:=hE.1;unfold lN;obtain⟨es,ee⟩:∃es,es=r2.2.1.1.2.2.2.2.2.1:=⟨_,rfl⟩;rw[<-ee]at hE hl⊢;refine C8 es (λi (v:CP×List (List UInt8))=>(es,((es.length:Nat):Int),((i:Nat):Int),_,v.1,r2.2.1.1,v.2)) (λi v=>ky L (20000+(i:Int)) v.1/\v.2.length<=i/\∀b∈v.2,b.length<=10000) (λi v hi hv=>?_) (λv hv=>?_) (b0:=(r2.1,[])) ⟨hs.le (by omega),a56 _,λb hb=>by cases hb⟩ (by omega)
 ·have he:=(hE.2.1 _ (a5V hi)).2.1;unfold dp;dsimp only;rw[a5H (by omega:(i:Int)<((es.length:Nat):Int)),D1,a5H (by omega:(0:Int)<=(i:Int)/\(i:Int)<((es.length:Nat):Int)),B7,A4];refine(K9 hv.1 (by omega) (by omega) (by omega)).mono λr6 h6=>?_;rw[A5];refine⟨λ_=>?_,λ_=>?_⟩
  ·rw[a5H (BI (by omega)),B7,a5J,C9 hi,A1,A8,C1 (by omega)];refine⟨(r6.1,v.2++[es[i].2.1]),rfl,h6.1.le (by omega),by dsimp only;rw[List.length_append,List.length_singleton];omega,λb hb=>?_⟩;rcases List.mem_append.1 hb with hb|hb
   ·exact hv.2.2 b hb
   ·rw[List.mem_singleton.1 hb];exact he
  ·rw[A1,A8,C1 (by omega)];exact⟨(r6.1,v.2),rfl,h6.1.le (by omega),by dsimp only;omega,hv.2.2⟩
 ·unfold dp;dsimp only;rw[a5N (by omega),D3,C4];exact(ND h hv.1 (by omega) (by omega) (by omega) hv.2.2).mono λr hr=>⟨md,hr.1,hr.2⟩
theorem qh{x n:Int}(hn:0<n) (h2:n<=1000):Ok (I3 x n) λr=>0<=r/\r<n:=(Lu (x:=x) (n:=n) (by omega) (by omega)).mono λr hr=>⟨hr.1,hr.2.1⟩
end Go.Proofs.YtjbgdpjgfjnkbaaGreatDoor.Am
