/- What leaves a pool with a block, and what stays. No conditions. -/
import Derived.Test.YtjbgdpjgfjnkbaaGreatDoorPLaw23R
namespace Go.Proofs.YtjbgdpjgfjnkbaaGreatDoor.Am
open Go
variable {md:Int}
def EK(l:List ED) (ks:List KD) (m:List ED):Prop:=ks.Nodup/\(∀k∈ks,∃e∈l,e.1=k)/\m=oe l ks
theorem vX{l:List ED}{ks:List KD}{e:ED}:e∈oe l ks↔e∈l/\e.1∉ks:=by
 unfold oe;rw[List.mem_filter,a5M]
theorem Sq(l:List ED) (a b:List KD):oe (oe l a) b=oe l (a++b):=by
 unfold oe;rw[List.filter_filter];refine List.filter_congr λe _=>?_;by_cases h1:e.1∈a <;> by_cases h2:e.1∈b <;> simp[h1,h2]
theorem EK.nil(l:List ED):EK l [] l:=⟨a6T,λk hk=>(by cases hk),(zC l).symm⟩
theorem EK.trans{l m o:List ED}{a b:List KD}(h1:EK l a m) (h2:EK m b o):EK l (a++b) o:=by
 obtain⟨a1,a2,a3⟩:=h1;obtain⟨b1,b2,b3⟩:=h2;subst a3;refine⟨List.nodup_append.2 ⟨a1,b1,λx hx y hy e=>?_⟩,λk hk=>?_,by rw[b3,Sq]⟩
 ·obtain⟨e1,h1,h2⟩:=b2 y hy;have:=(vX.1 h1).2;rw[h2,<-e]at this;exact this hx
 ·rcases List.mem_append.1 hk with hk|hk
  ·exact a2 k hk
  ·obtain⟨e,he,h⟩:=b2 k hk;exact⟨e,(vX.1 he).1,h⟩
theorem EK.one{l:List ED}{k:KD}(h:∃e∈l,e.1=k):EK l [k] (oe l [k]):=⟨List.nodup_cons.2 ⟨by simp,a6T⟩,λq hq=>by rw[List.mem_singleton.1 hq];exact h,rfl⟩
theorem a2N{l:List ED}{ks:List KD}(h:∀e∈l,e.1∉ks):oe l ks=l:=List.filter_eq_self.2 λe he=>a5H (h e he)
theorem EL(s:StD) (raw:List UInt8) (r:B1):(Ju s raw r).2.2.2.2.2.1=s.2.2.2.2.2.1:=by
 unfold Ju qz;split
 ·rfl
 ·split <;> rfl
theorem LP{n:Nat}{s:StD}(h:StV md n s) (raws:List (List UInt8)) (rs:List B1):∀i,EK s.2.2.2.2.2.1 (qC s raws rs i).2 (qC s raws rs i).1.2.2.2.2.2.1
 |0=>EK.nil _
 |i+1=>by
  have h1:=LP h raws rs i;have hv:=(qg h raws rs i).1.2.2.1.2.2;rw[pE,EL];have e1:(uV (Ju (qC s raws rs i).1 (raws.getD i []) (rs.getD i R6)) (xV (raws.getD i []))).2.2.2.2.2.1=oe (qC s raws rs i).1.2.2.2.2.2.1 [xV (raws.getD i [])]:=by
   show List.eraseP (isK (xV (raws.getD i []))) (Ju (qC s raws rs i).1 (raws.getD i []) (rs.getD i R6)).2.2.2.2.2.1=_;rw[EL,un hv]
  dsimp only;rw[e1];split
  ·rename_i hk;exact h1.trans (EK.one hk)
  ·rename_i hk;rw[a2N λe he hm=>hk ⟨e,he,List.mem_singleton.1 hm⟩];exact h1
theorem Hm{n:Nat}{s:StD}(h:StV md n s) (raws:List (List UInt8)) (rs:List B1):∀i,∀j<i,∀e∈(qC s raws rs i).1.2.2.2.2.2.1,e.1≠xV (raws.getD j [])
 |0,j,hj,_,_=>by omega
 |i+1,j,hj,e,he=>by
  have hv:=(qg h raws rs i).1.2.2.1.2.2;have e1:(qC s raws rs (i+1)).1.2.2.2.2.2.1=oe (qC s raws rs i).1.2.2.2.2.2.1 [xV (raws.getD i [])]:=by
   rw[pE];show List.eraseP (isK (xV (raws.getD i []))) (Ju (qC s raws rs i).1 (raws.getD i []) (rs.getD i R6)).2.2.2.2.2.1=_;rw[EL,un hv]
  rw[e1]at he;obtain⟨h1,h2⟩:=vX.1 he;by_cases hj':j=i
  ·rw[hj'];exact λh3=>h2 (List.mem_singleton.2 h3)
  ·exact Hm h raws rs i j (by omega) e h1
theorem Ss(s:StD) (l:List ED):(dr s l).Sublist (l.map λe=>e.1):=List.filter_sublist.map _
theorem xj(s:StD):∀(l:List ED) (g:o8),(og s g l).2.1.Sublist (l.map λe=>e.1)/\(og s g l).2.2.Sublist l
 |[],_=>⟨List.Sublist.refl _,List.Sublist.refl _⟩
 |e::l,g=>by
  by_cases h:oZ s g e=true
  ·rw[uo l h];obtain⟨h1,h2⟩:=xj s l (N9 g s.2.1.2.2.2.2 e.2.1).1;exact⟨h1.cons _,h2.cons_cons _⟩
  ·rw[xi l h];obtain⟨h1,h2⟩:=xj s l g;exact⟨h1.cons_cons _,h2.cons _⟩
theorem Su{l:List ED}{ks:List KD}(hn:(l.map λe=>e.1).Nodup) (h:ks.Sublist (l.map λe=>e.1)):EK l ks (oe l ks):=⟨hn.sublist h,λk hk=>by simpa using h.subset hk,rfl⟩
theorem ZA{n:Nat}{s:StD}(h:StV md n s):(og s s.2.1.1 s.2.2.2.2.2.1).2.2=oe s.2.2.2.2.2.1 (og s s.2.1.1 s.2.2.2.2.2.1).2.1:=by
 obtain⟨h1,h2⟩:=Sn h.2.2.1.2.2 h.2.1.1 _ (a56 _);rw[a52]at h1 h2;rw[<-h2,h1]
theorem EM(s:StD):∀(l:List ED) (g:o8),(nv g s.2.1.2.2.2.2 ((og s g l).2.2.map λe=>e.2.1)).1=(og s g l).1/\∀r∈(nv g s.2.1.2.2.2.2 ((og s g l).2.2.map λe=>e.2.1)).2,r.1=0
 |[],_=>⟨rfl,λr hr=>by cases hr⟩
 |e::l,g=>by
  by_cases h:oZ s g e=true
  ·rw[uo l h];obtain⟨h1,h2⟩:=EM s l (N9 g s.2.1.2.2.2.2 e.2.1).1;dsimp only;rw[a55,xe];refine⟨h1,λr hr=>?_⟩;rcases List.mem_cons.1 hr with hr|hr
   ·rw[hr];unfold oZ at h;exact a5P (Bool.and_eq_true_iff.1 h).1
   ·exact h2 r hr
  ·rw[xi l h];exact EM s l g
theorem LQ{n:Nat}{s:StD}(h:StV md n s) (raws:List (List UInt8)) (rs:List B1) (a b:Int):EK s.2.2.2.2.2.1 (((sf s raws rs a b).2.2.2.2.2.2.2.1++(sf s raws rs a b).2.2.2.2.2.1)++(sf s raws rs a b).2.2.2.2.2.2.1) (sf s raws rs a b).1.2.2.2.2.2.1:=by
 have hu:=(qg (h.u a b) raws rs (min raws.length rs.length)).1;have c1:EK s.2.2.2.2.2.1 (nk s raws rs a b).2 (nk s raws rs a b).1.2.2.2.2.2.1:=LP (h.u a b) raws rs (min raws.length rs.length);have hu:StV md n (nk s raws rs a b).1:=hu;have c2:=Su hu.2.2.1.2.2 (Ss (nk s raws rs a b).1 (nk s raws rs a b).1.2.2.2.2.2.1);have hp:=hu.pur;have c3:=Su hp.2.2.1.2.2 (xj (sv (nk s raws rs a b).1).1 (sv (nk s raws rs a b).1).1.2.2.2.2.2.1 (sv (nk s raws rs a b).1).1.2.1.1).1;have c4:EK (sv (nk s raws rs a b).1).1.2.2.2.2.2.1 (Hf (sv (nk s raws rs a b).1).1).2 (Hf (sv (nk s raws rs a b).1).1).1.2.2.2.2.2.1:=by
  rw[Hh hp];show EK _ _ (og (sv (nk s raws rs a b).1).1 (sv (nk s raws rs a b).1).1.2.1.1 (sv (nk s raws rs a b).1).1.2.2.2.2.2.1).2.2;rw[ZA hp];exact c3
 exact(c1.trans c2).trans c4
end Go.Proofs.YtjbgdpjgfjnkbaaGreatDoor.Am
