/- Texts laid together: PTkN, PSame. No conditions. -/
import Derived.Test.YtjbgdpjgfjnkbaaGreatDoorQBA
namespace Go.Proofs.YtjbgdpjgfjnkbaaGreatDoor.Am
open Go
variable {md:Int}
theorem PC {α:Type} (lt:α->α->Bool) (x:α) (s:List α):(wM lt x s).Perm (x :: s):=by
 have:∀ t:List α,(PM lt x t).Perm (x :: t):=by
  intro t
  induction t with
  | nil=>exact List.Perm.refl _
  | cons y t ih=>
   unfold PM;split
   ·exact(ih.cons y).trans (List.Perm.swap x y t)
   ·exact List.Perm.refl _
 unfold wM;exact(List.reverse_perm _).trans ((this _).trans ((List.reverse_perm s).cons x))
theorem Lh {α:Type} (lt:α->α->Bool) (l:List α):(iH lt l).Perm l:=by
 induction l using xf with
 | h0=>exact List.Perm.refl _
 | h1 l x ih=>
  rw [pN];exact(PC lt x _).trans ((ih.cons x).trans (List.perm_append_singleton x l).symm)
def a0i (mb mg p:Int) (g:o8) (l:List ED) (v:BSt):Prop:=v.1=mb - (pZ v.2.2.2:Int)/\(0<=mg->v.2.1=mg - (sK v.2.2.2).sum)/\v.2.2.1=(lC g p v.2.2.2).1/\(∀ r ∈ (lC g p v.2.2.2).2,r.1=0)/\v.2.2.2.Sublist (l.map λe=>e.2.1)
theorem PD {mb mg p:Int} {g:o8} {l:List ED} {v:BSt} {e:ED} {n:Nat} (h:a0i mb mg p g l v) (he:GK n e):a0i mb mg p g (l ++ [e]) (lD (decide (mg < 0)) p v e):=by
 obtain⟨h1,h2,h3,h4,h5⟩:=h;unfold lD;rw [a0i,a3g];split
 ·rename_i ht;unfold nt at ht;have hc:=a23 (Bool.and_eq_true_iff.1 ht).2;have ez:pZ (v.2.2.2 ++ [e.2.1])=pZ v.2.2.2 + fsz e.2.1.length:=by rw [vD,xy]
  have eg:(sK (v.2.2.2 ++ [e.2.1])).sum=(sK v.2.2.2).sum + e.2.2.2.2.1:=by
   unfold sK;rw [a3g,a4k,he.2.2.1];simp
  have er:lC g p (v.2.2.2 ++ [e.2.1])=((T7 v.2.2.1 p e.2.1).1,(lC g p v.2.2.2).2 ++ [(T7 v.2.2.1 p e.2.1).2]):=by
   rw [xw,<-h3];rfl
  unfold qG;dsimp only;rw [ez,eg,er];refine⟨by omega,λhm=>?_,rfl,λr hr=>?_,h5.append (List.Sublist.refl _)⟩
  ·rw [a25 (by rw [a2Y (by omega)];decide),h2 hm];omega
  ·rcases List.mem_append.1 hr with hr | hr
   ·exact h4 r hr
   ·rw [List.mem_singleton.1 hr];exact hc
 ·exact⟨h1,h2,h3,h4,h5.trans (List.sublist_append_left _ _)⟩
theorem Js {mb mg p:Int} {g:o8} {l:List ED} {n:Nat} (hl:∀ e ∈ l,GK n e):∀ i:Nat,i<=l.length->a0i mb mg p g (l.take i) (iY (decide (mg < 0)) p (mb,max mg 0,g,[]) (l.take i))
 | 0,_=>⟨by simp [iY,pZ],λhm=>by simp [iY,sK];omega,rfl,λr hr=>(by cases hr),List.nil_sublist _⟩
 | i + 1,hi=>by
  rw [mq (by omega),I2 (by omega)];exact PD (Js hl i (by omega)) (hl _ (a29 _))
theorem wb (free:Bool) (p:Int):∀ (l:List ED) (v:BSt),v.2.2.2 <+: (iY free p v l).2.2.2
 | [],_=>List.prefix_refl _
 | e :: l,v=>by
  refine List.IsPrefix.trans ?_ (wb free p l (lD free p v e));unfold lD;split
  ·exact List.prefix_append _ _
  ·exact List.prefix_refl _
theorem PE {free:Bool} {p:Int} {v:BSt} {l:List ED} (i:Nat):(iY free p v (l.take i)).2.2.2 <+: (iY free p v l).2.2.2:=by
 have e:iY free p v l=iY free p (iY free p v (l.take i)) (l.drop i):=by
  unfold iY;rw [<-a40,a3q]
 rw [e];exact wb ..
theorem EE {n:Nat} {s:StD} (h:StV md n s) {mb mg:Int} (h1:0<=mb) (h2: -1<=mg) (h1':mb<=9223372036854775807) (h2':mg<=9223372036854775807):(pZ (eL s mb mg):Int)<=mb/\(0<=mg->(sK (eL s mb mg)).sum<=mg)/\(∀ r ∈ (lC s.2.1.1 s.2.1.2.2.2.2 (eL s mb mg)).2,r.1=0)/\(eL s mb mg).Sublist ((jX s.2.2.2.2.2.1).map λe=>e.2.1):=by
 have hl:∀ e ∈ jX s.2.2.2.2.2.1,GK n e:=λe he=>h.2.2.1.2.1 e (lA.1 he);have hi:=pW (free:=decide (mg < 0)) (p:=s.2.1.2.2.2.2) (se h (mb:=mb) (mg:=mg) h1 h1' h2') hl _ (a3j _);have hr:=Js (mb:=mb) (mg:=mg) (p:=s.2.1.2.2.2.2) (g:=s.2.1.1) hl _ (a3j _);rw [a3i] at hi hr;unfold eL;rw [a25 (by omega)];obtain⟨⟨i1,_⟩,⟨i2,_⟩,_⟩:=hi;obtain⟨r1,r2,_,r4,r5⟩:=hr;have r1':(iY (decide (mg < 0)) s.2.1.2.2.2.2 (nh s mb mg) (jX s.2.2.2.2.2.1)).1=mb - (pZ (iY (decide (mg < 0)) s.2.1.2.2.2.2 (nh s mb mg) (jX s.2.2.2.2.2.1)).2.2.2:Int):=r1;refine⟨by omega,λhm=>?_,r4,r5⟩;have r2':(iY (decide (mg < 0)) s.2.1.2.2.2.2 (nh s mb mg) (jX s.2.2.2.2.2.1)).2.1=mg - (sK (iY (decide (mg < 0)) s.2.1.2.2.2.2 (nh s mb mg) (jX s.2.2.2.2.2.1)).2.2.2).sum:=r2 hm;omega
theorem AL {n:Nat} {s:StD} (h:StV md n s) {B:List (List UInt8)} (hB:B.Sublist ((jX s.2.2.2.2.2.1).map λe=>e.2.1)):(B.map Jf).Nodup/\∀ r ∈ B,∃ e ∈ s.2.2.2.2.2.1,e.1=Jf r:=by
 constructor
 ·have e1:((jX s.2.2.2.2.2.1).map λe=>e.2.1).map Jf=(jX s.2.2.2.2.2.1).map λe=>e.1:=by
   rw [a4z];exact a37 λe he=>(h.2.2.1.2.1 e (lA.1 he)).1.symm
  have h1:=hB.map Jf;rw [e1] at h1;refine h1.nodup ?_;exact((Lh (ltc cE) s.2.2.2.2.2.1).map λe=>e.1).nodup_iff.2 h.2.2.1.2.2
 ·intro r hr;obtain⟨e,he,rfl⟩:=List.mem_map.1 (hB.subset hr);have he:=lA.1 he;exact⟨e,he,(h.2.2.1.2.1 e he).1⟩
theorem GS {n:Nat} {s:StD} (h:StV md n s) (hn:n<=512) {mb mg:Int} (h1:0<=mb) (h2: -1<=mg) (h1':mb<=9223372036854775807) (h2':mg<=9223372036854775807):AH s (eL s mb mg) mb mg=0:=by
 obtain⟨b1,b2,b3,_⟩:=EE h h1 h2 h1' h2';have hl:=(pX h (mb:=mb) (mg:=mg) h1' h2').1;unfold AH;rw [a25 (by omega),a25 (by omega),Pn b3,a25 (λhx=>hx rfl),a25 (λhx=>by have:=b2 hx.1;omega)]
theorem AM {free:Bool} {p:Int}:∀ {l:List ED} {v:BSt},(∀ e ∈ l,nt free p v e=false)->iY free p v l=v
 | [],_,_=>rfl
 | e :: l,v,h=>by
  have e1:lD free p v e=v:=by unfold lD;rw [h e a3V];rfl
  show iY free p (lD free p v e) l=v;rw [e1];exact AM λe he=>h e (a3t _ he)
theorem AN {free:Bool} {p:Int}:∀ {l:List ED} {v:BSt},(∃ e ∈ l,nt free p v e=true)->v.2.2.2.length < (iY free p v l).2.2.2.length
 | [],_,h=>by obtain⟨e,he,_⟩:=h;cases he
 | e :: l,v,h=>by
  show _ < (iY free p (lD free p v e) l).2.2.2.length;by_cases ht:nt free p v e=true
  ·have h1:=(wb free p l (lD free p v e)).length_le;have h2:(lD free p v e).2.2.2.length=v.2.2.2.length + 1:=by
    unfold lD;rw [a28 ht];unfold qG;dsimp only;rw [a2V,a3f]
   omega
  ·have e1:lD free p v e=v:=by unfold lD;rw [a25 ht]
   rw [e1];obtain⟨x,hx,hxt⟩:=h;rcases List.mem_cons.1 hx with rfl | hx
   ·exact absurd hxt ht
   ·exact AN ⟨x,hx,hxt⟩
end Go.Proofs.YtjbgdpjgfjnkbaaGreatDoor.Am
namespace Go.Proofs.YtjbgdpjgfjnkbaaGreatDoor.Am
open Go
theorem zG {l:List (List UInt8)} (h:l.length < 9223372036854775807):X2 l l=some true:=by
 refine J3.1 ?_;simp only [X2,A7,A4,a2W,a2U,a20,a2Z];refine⟨λh=>(h trivial).elim,λ_=>?_⟩;unfold iQ;refine D8 l (λi (_:Unit)=>(l,l,((l.length:Nat):Int),((i:Nat):Int))) (λ_ _=>True) (λi b hi _=>?_) (λb _=>?_) (b0:=()) trivial (by omega)
 ·simp only [Y9,G6,D2 (i:=i) (by omega),A7,D4,A5,A4,B5,B8,a2W,a2U,a20,a2Z,a2T,decide_true];refine⟨λ_=>⟨by omega,by omega,?_⟩,λh=>by omega⟩;simp
 ·simp only [Y9,A7,D4,A5,A4,B5,B8,a2W,a2U,a20,a2Z,a2T];exact⟨λh=>by omega,λ_=>trivial⟩
end Go.Proofs.YtjbgdpjgfjnkbaaGreatDoor.Am
