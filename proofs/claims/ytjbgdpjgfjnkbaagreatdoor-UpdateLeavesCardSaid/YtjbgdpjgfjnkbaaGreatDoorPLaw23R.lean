/- Checking again as a walk, and what an update keeps. No conditions. -/
import Derived.Test.YtjbgdpjgfjnkbaaGreatDoorPLaw23
namespace Go.Proofs.YtjbgdpjgfjnkbaaGreatDoor.Am
open Go
variable {md:Int}
def og(s:StD):o8->List ED->o8×List KD×List ED
 |g,[]=>(g,[],[])
 |g,e::l=>if oZ s g e=true then((og s (N9 g s.2.1.2.2.2.2 e.2.1).1 l).1,(og s (N9 g s.2.1.2.2.2.2 e.2.1).1 l).2.1,e::(og s (N9 g s.2.1.2.2.2.2 e.2.1).1 l).2.2)
   else((og s g l).1,e.1::(og s g l).2.1,(og s g l).2.2)
theorem uo{s:StD}{g:o8}{e:ED}(l:List ED) (h:oZ s g e=true):og s g (e::l)=((og s (N9 g s.2.1.2.2.2.2 e.2.1).1 l).1,(og s (N9 g s.2.1.2.2.2.2 e.2.1).1 l).2.1,e::(og s (N9 g s.2.1.2.2.2.2 e.2.1).1 l).2.2):=by
 show(if oZ s g e=true then _ else _)=_
 rw[a5W h]
theorem xi{s:StD}{g:o8}{e:ED}(l:List ED) (h:¬oZ s g e=true):og s g (e::l)=((og s g l).1,e.1::(og s g l).2.1,(og s g l).2.2):=by
 show(if oZ s g e=true then _ else _)=_
 rw[a5U h]
theorem Bg(s:StD) (e:ED):∀(l:List ED) (g:o8),og s g (l++[e])=if oZ s (og s g l).1 e=true then((N9 (og s g l).1 s.2.1.2.2.2.2 e.2.1).1,(og s g l).2.1,(og s g l).2.2++[e]) else((og s g l).1,(og s g l).2.1++[e.1],(og s g l).2.2)
 |[],g=>by
  show(if oZ s g e=true then _ else _)=if oZ s g e=true then _ else _
  split <;> rfl
 |x::l,g=>by
  rw[a6l];by_cases hx:oZ s g x=true
  ·rw[uo _ hx,uo _ hx,Bg s e l];dsimp only;split <;> rfl
  ·rw[xi _ hx,xi _ hx,Bg s e l];dsimp only;split <;> rfl
theorem Sn{s:StD}{l:List ED}(hn:(l.map λe=>e.1).Nodup) (hg:xl s.2.1.1):∀i,i<=l.length->iF s l i=((og s s.2.1.1 (l.take i)).1,(og s s.2.1.1 (l.take i)).2.1)/\oe (l.take i) (iF s l i).2=(og s s.2.1.1 (l.take i)).2.2
 |0,_=>⟨rfl,rfl⟩
 |i+1,hi=>by
  obtain⟨h1,h2⟩:=Sn hn hg i (by omega);obtain⟨_,_,h3⟩:=Bf hg l i (by omega);obtain⟨o1,o2⟩:=vW (by omega) hn h3;have hs:=Bg s l[i] (l.take i) s.2.1.1;rw[E4 (by omega),hs,xh,C9 (by omega),h1];rw[E4 (by omega)]at o1 o2;rw[h1]at h2 o1 o2;dsimp only at h2 o1 o2⊢;split
  ·exact⟨rfl,by rw[o1,h2]⟩
  ·exact⟨rfl,by rw[o2,h2]⟩
theorem Hh{n:Nat}{s:StD}(h:StV md n s):Hf s=(tJ (stR s (og s s.2.1.1 s.2.2.2.2.2.1).1 (cachR s (og s s.2.1.1 s.2.2.2.2.2.1).2.1)) (og s s.2.1.1 s.2.2.2.2.2.1).2.2,(og s s.2.1.1 s.2.2.2.2.2.1).2.1):=by
 obtain⟨h1,h2⟩:=Sn h.2.2.1.2.2 h.2.1.1 _ (a56 _);rw[a52]at h1 h2;unfold Hf;rw[h2,h1]
theorem LO{n:Nat}{s:StD}(h:StV md n s) (raws:List (List UInt8)) (rs:List B1) (a b:Int):StV md n (sf s raws rs a b).1:=(StV.pur (qg (h.u a b) raws rs (min raws.length rs.length)).1).rec
end Go.Proofs.YtjbgdpjgfjnkbaaGreatDoor.Am
