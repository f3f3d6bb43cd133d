/- Texts laid together: PTx, PStep, PSameL, PPlace, PLim13. No conditions. -/
import Derived.Test.YtbipjlehhlkghaaDoorQAO
import Derived.Test.YtbipjlehhlkghaaDoorQAF
import Derived.Test.YtbipjlehhlkghaaDoorFAll
import Derived.Test.YtbipjlehhlkghaaDoorQAE
import Derived.Test.YtbipjlehhlkghaaDoorFAllKmempoollaw13
namespace Go.Proofs.YtbipjlehhlkghaaDoor.Am
open Go
def c5F (n:Int):Int:=A7 (min (max n 0) 1073741824)
def b9T (a b:Int):Int:=A7 (A7 (50 + A7 (1 * c5F a)) + A7 (20 * c5F b))
theorem b9U (a b:Int):a7q a b=some (b9T a b):=rfl
theorem c1K (a b:Int):V1 a b=some (b9T a b):=by
 have h:∀ n:Int,L1 n=some (c5F n):=fun n=>by
  unfold L1 c5F
  rw [show max 0 (min n 1073741824)=min (max n 0) 1073741824 by omega]
 unfold V1
 rw [h,Option.bind_some,h,Option.bind_some];rfl
def a96 (a p:Int):Int × Bool:=c5b a.toNat p.toNat
theorem b9V {a p:Int} (ha:okU a) (hp:okU p):a5g a p=some (a96 a p):=by
 obtain⟨x,rfl⟩:=Int.eq_ofNat_of_zero_le ha.1
 obtain⟨y,rfl⟩:=Int.eq_ofNat_of_zero_le hp.1
 have h1:=ha.2
 have h2:=hp.2
 unfold a5g a96
 rw [c1r (by omega) (by omega)];rfl
theorem c1L {a p:Int} (ha:okU a) (hp:okU p):V2 a p=some (a96 a p):=by
 obtain⟨x,rfl⟩:=Int.eq_ofNat_of_zero_le ha.1
 obtain⟨y,rfl⟩:=Int.eq_ofNat_of_zero_le hp.1
 have h1:=ha.2
 have h2:=hp.2
 unfold V2 a96
 rw [c3v (by omega) (by omega)];rfl
def b4M (fee gas:Int):Int:=b9C fee.toNat gas.toNat
theorem b7i {a p:Int} (ha:okU a) (hp:okU p):a0n a p=some (b4M a p):=by
 obtain⟨x,rfl⟩:=Int.eq_ofNat_of_zero_le ha.1
 obtain⟨y,rfl⟩:=Int.eq_ofNat_of_zero_le hp.1
 have h1:=ha.2
 have h2:=hp.2
 unfold b4M
 rw [b9D (by omega) (by omega)];rfl
theorem b9W {a p:Int} (ha:okU a) (hp:okU p):J3 a p=some (b4M a p):=by
 obtain⟨x,rfl⟩:=Int.eq_ofNat_of_zero_le ha.1
 obtain⟨y,rfl⟩:=Int.eq_ofNat_of_zero_le hp.1
 have h1:=ha.2
 have h2:=hp.2
 unfold b4M
 rw [c1u (by omega) (by omega)];rfl
theorem b9X {α β:Type} {eq:α->α->Bool} (he:b9u eq) {k:α}:∀ {l:List (α × β)} {i:Nat},a9L eq k l=some i->∃ h:i < l.length,l[i].1=k
 | [],i,h=>by cases h
 | p :: l,i,h=>by
  unfold a9L at h
  by_cases hp:eq k p.1=true
  ·rw [if_pos hp] at h
   cases h
   exact⟨by simp,((he _ _).1 hp).symm⟩
  ·rw [if_neg hp] at h
   cases hm:a9L eq k l with
   | none=>rw [hm] at h;cases h
   | some j=>
    rw [hm] at h
    cases h
    obtain⟨h1,h2⟩:=b9X he hm
    exact⟨by simp only [List.length_cons];omega,by simpa using h2⟩
theorem c3M {l:List (List UInt8 × Vector UInt8 0)} {k:List UInt8} {v:Vector UInt8 0} (h:k ∈ a4C l):b8A a88 k v l=l:=by
 have hs:=(a6f b1Q k l).2 h
 cases hm:a9L a88 k l with
 | none=>rw [hm] at hs;cases hs
 | some i=>
  obtain⟨h1,h2⟩:=b9X b1Q hm
  unfold b8A
  rw [hm]
  show l.set i (k,v)=l
  have hv:v=l[i].2:=Vector.ext fun j hj=>by omega
  rw [<-h2,hv]
  exact List.set_getElem_self h1
theorem b7j {g:o7} {t:o8} {P:List o3} (hs:Srt g.1) (hl:g.1.length<=1000000) (ht:t.2.2.2.2.2.length<=2000) (hP:∀ n,n ∈ S1 P ↔ n ∈ S1 g.1) (hPl:P.length=g.1.length):a2h g t=some (((((t.2.2.2.2.2.foldl Z8 P).length - g.1.length:Nat)):Nat):Int):=by
 rw [<-M9]
 unfold a2h a3t
 refine I8 t.2.2.2.2.2 (fun i (m:List (List UInt8 × Vector UInt8 0))=>(t.2.2.2.2.2,((t.2.2.2.2.2.length:Nat):Int),((i:Nat):Int),g,m)) (fun i m=>(∀ n,n ∈ a4C m ↔ n ∈ S1 ((t.2.2.2.2.2.take i).foldl Z8 P)/\n ∉ S1 g.1)/\m.length + g.1.length=((t.2.2.2.2.2.take i).foldl Z8 P).length/\∀ n ∈ S1 g.1,n ∈ S1 ((t.2.2.2.2.2.take i).foldl Z8 P)) (fun i m hi hv=>?_) (fun m hv=>?_) (b0:=[]) ⟨fun n=>⟨fun h=>(by cases h),fun h=>absurd ((hP n).1 h.1) h.2⟩,by rw [List.take_zero,List.foldl_nil,hPl,List.length_nil,Nat.zero_add],fun n h=>(hP n).2 h⟩ (by omega)
 ·obtain⟨hv1,hv2,hv3⟩:=hv
  unfold a0s
  dsimp only
  rw [decide_eq_true (by omega:(i:Int) < ((t.2.2.2.2.2.length:Nat):Int)),D6,decide_eq_true (by omega:(0:Int)<=(i:Int)/\(i:Int) < ((t.2.2.2.2.2.length:Nat):Int)),E5,Int.toNat_natCast,E6 hi,a5j (g:=g) hs (by omega),Option.bind_some,a9C hi]
  generalize t.2.2.2.2.2[i]=x
  generalize (t.2.2.2.2.2.take i).foldl Z8 P=Q at hv1 hv2 hv3
  dsimp only
  have hsub:∀ n ∈ S1 g.1,n ∈ S1 (Z8 Q x):=fun n h=>(a5i Q x n).2 (.inr (hv3 n h))
  by_cases hx:D3 g.1 x.1 < g.1.length
  ·have hxn:=a2v.1 hx
   rw [decide_eq_true hx,Bool.not_true,C8,A0,A8,H0 (by omega)]
   refine⟨_,rfl,fun n=>?_,?_,hsub⟩
   ·rw [hv1 n,a5i]
    refine⟨fun h=>⟨.inr h.1,h.2⟩,fun h=>⟨?_,h.2⟩⟩
    rcases h.1 with rfl | h1
    ·exact absurd hxn h.2
    ·exact h1
   ·rw [a68,if_pos (a2v.2 (hv3 _ hxn))]
    exact hv2
  ·have hxn:x.1 ∉ S1 g.1:=fun h=>hx (a2v.2 h)
   rw [decide_eq_false hx,Bool.not_false,D6,A0,A8,H0 (by omega)]
   refine⟨_,rfl,?_⟩
   by_cases hq:x.1 ∈ S1 Q
   ·rw [c3M ((hv1 x.1).2 ⟨hq,hxn⟩),a68,if_pos (a2v.2 hq)]
    refine⟨fun n=>?_,hv2,hsub⟩
    rw [hv1 n,a5i]
    refine⟨fun h=>⟨.inr h.1,h.2⟩,fun h=>⟨?_,h.2⟩⟩
    rcases h.1 with rfl | h1
    ·exact hq
    ·exact h1
   ·rw [c1p b1Q (fun h=>hq ((hv1 x.1).1 h).1),a68,if_neg (fun h=>hq (a2v.1 h)),List.length_append]
    refine⟨fun n=>?_,by simp only [List.length_cons,List.length_nil];omega,hsub⟩
    have hk:n ∈ a4C (m ++ [(x.1,Vector.replicate 0 (0:UInt8))]) ↔ n ∈ a4C m\/n=x.1:=by
     unfold a4C
     rw [List.map_append,List.mem_append,List.map_cons,List.map_nil,List.mem_singleton]
    rw [hk,hv1 n,a5i]
    constructor
    ·rintro(h | rfl)
     ·exact⟨.inr h.1,h.2⟩
     ·exact⟨.inl rfl,hxn⟩
    ·rintro⟨rfl | h,h2⟩
     ·exact .inr rfl
     ·exact .inl ⟨h,h2⟩
 ·rw [List.take_length] at hv
  unfold a0s
  dsimp only
  rw [decide_eq_false (by omega),C8,A0,A6,<-hv.2.1,Nat.add_sub_cancel]
theorem b7k {l:List o3} {n:List UInt8} {sum:Int} (h:D3 l n < l.length):S1 (a2n l n sum)=S1 l:=by
 rw [a8H h]
 exact b3n (a:=(l[D3 l n].1,A7 (l[D3 l n].2.1 - sum),A7 (l[D3 l n].2.2 + 1))) h rfl
theorem c3N (l:List TR) (a:List o3):a.length<=(l.foldl Z8 a).length:=by
 induction l generalizing a with
 | nil=>simp
 | cons x l ih=>
  have h1:=ih (Z8 a x)
  have h2:=a68 a x
  rw [List.foldl_cons]
  split at h2 <;> omega
def b3x (g:o7) (p:Int) (t:o8) (n:Int):Int:=
 if ¬ D3 g.1 t.1 < g.1.length then 13
 else if(g.1.getD (D3 g.1 t.1) o5).2.2 ≠ t.2.1 then 14
 else if t.2.1=18446744073709551615 then 6
 else if t.2.2.1 < b9T n ((t.2.2.2.2.2.length:Nat):Int) then 15
 else if(a96 t.2.2.1 p).2=false then 6
 else if t.2.2.2.1 < (a96 t.2.2.1 p).1 then 16
 else if(a03 t).2=false then 6
 else if(g.1.getD (D3 g.1 t.1) o5).2.1 < (a03 t).1 then 17
 else if 256 < (a95 g t (a03 t).1).1.length then 3
 else 0
theorem c1M {g:o7} {t:o8} {s:Int}:(a95 g t s).1=t.2.2.2.2.2.foldl Z8 (a2n g.1 t.1 s):=rfl
theorem b7l {g:o7} {p:Int} {t:o8} {n:Int} (hs:Srt g.1) (hl:g.1.length<=1000000) (ht:TxS t) (hp:okU p):a2i g p t n=some (b3x g p t n):=by
 have htl:=ht.2.2.2.2.2.1
 unfold a2i b3x
 rw [a5j (g:=g) hs (by omega),Option.bind_some]
 dsimp only
 by_cases hf:D3 g.1 t.1 < g.1.length
 ·rw [decide_eq_true hf,Bool.not_true,C8,if_neg (fun h=>h hf),a7t hs hf,decide_eq_true (by omega:(0:Int)<=((D3 g.1 t.1:Nat):Int)/\((D3 g.1 t.1:Nat):Int) < ((g.1.length:Nat):Int)),E5,Int.toNat_natCast]
  by_cases h1:(g.1.getD (D3 g.1 t.1) o5).2.2=t.2.1
  ·rw [decide_eq_true h1,Bool.not_true,C8,if_neg (fun h=>h h1),h1]
   by_cases h2:t.2.1=18446744073709551615
   ·rw [decide_eq_true h2,D6,if_pos h2]
   ·rw [decide_eq_false h2,C8,if_neg h2,b9U,Option.bind_some]
    by_cases h3:t.2.2.1 < b9T n ((t.2.2.2.2.2.length:Nat):Int)
    ·rw [decide_eq_true h3,D6,if_pos h3]
    ·rw [decide_eq_false h3,C8,if_neg h3,b9V ht.2.2.1 hp,Option.bind_some]
     by_cases h4:(a96 t.2.2.1 p).2=false
     ·rw [h4,Bool.not_false,D6,if_pos rfl]
     ·rw [if_neg h4,Bool.not_eq_false _ |>.mp h4,Bool.not_true,C8]
      by_cases h5:t.2.2.2.1 < (a96 t.2.2.1 p).1
      ·rw [decide_eq_true h5,D6,if_pos h5]
      ·rw [decide_eq_false h5,C8,if_neg h5,b3o ht,Option.bind_some]
       by_cases h6:(a03 t).2=false
       ·rw [h6,Bool.not_false,D6,if_pos rfl]
       ·rw [if_neg h6,Bool.not_eq_false _ |>.mp h6,Bool.not_true,C8]
        by_cases h7:(g.1.getD (D3 g.1 t.1) o5).2.1 < (a03 t).1
        ·rw [decide_eq_true h7,D6,if_pos h7]
        ·rw [decide_eq_false h7,C8,if_neg h7]
         have hpl:(a2n g.1 t.1 (a03 t).1).length=g.1.length:=by rw [a8H hf,List.length_set]
         have hge:=c3N t.2.2.2.2.2 (a2n g.1 t.1 (a03 t).1)
         have hle:=b13 t.2.2.2.2.2 (a2n g.1 t.1 (a03 t).1)
         rw [b7j (P:=a2n g.1 t.1 (a03 t).1) hs hl (by omega) (fun m=>by rw [b7k hf]) hpl,Option.bind_some,c1M]
         rw [D9 (by omega) (by omega)]
         by_cases h8:256 < (t.2.2.2.2.2.foldl Z8 (a2n g.1 t.1 (a03 t).1)).length
         ·rw [if_pos h8,decide_eq_true (by omega),D6]
         ·rw [if_neg h8,decide_eq_false (by omega),C8]
  ·rw [decide_eq_false h1,Bool.not_false,D6,if_pos h1]
 ·rw [decide_eq_false hf,Bool.not_false,D6,if_pos hf]
theorem b9Y {g:o7} {p:Int} {t:o8} {n:Int} (hl:g.1.length<=1000000) (ht:TxS t) (hp:okU p):S8 g p t n=some (b3x g p t n):=by
 have htl:=ht.2.2.2.2.2.1
 unfold S8 b3x
 rw [b9t (by omega),Option.bind_some]
 unfold c3p
 by_cases hf:D3 g.1 t.1 < g.1.length
 ·rw [if_pos hf,if_neg (fun h=>h hf)]
  dsimp only
  rw [Bool.not_true,C8]
  by_cases h1:(g.1.getD (D3 g.1 t.1) o5).2.2=t.2.1
  ·rw [decide_eq_true h1,Bool.not_true,C8,if_neg (fun h=>h h1)]
   by_cases h2:t.2.1=18446744073709551615
   ·rw [decide_eq_true h2,D6,if_pos h2]
   ·rw [decide_eq_false h2,C8,if_neg h2,c1K,Option.bind_some]
    by_cases h3:t.2.2.1 < b9T n ((t.2.2.2.2.2.length:Nat):Int)
    ·rw [decide_eq_true h3,D6,if_pos h3]
    ·rw [decide_eq_false h3,C8,if_neg h3,c1L ht.2.2.1 hp,Option.bind_some,b6e ht,Option.bind_some]
     by_cases h4:(a96 t.2.2.1 p).2=false
     ·rw [h4,Bool.not_false,D6,if_pos rfl]
     ·rw [if_neg h4,Bool.not_eq_false _ |>.mp h4,Bool.not_true,C8]
      by_cases h5:t.2.2.2.1 < (a96 t.2.2.1 p).1
      ·rw [decide_eq_true h5,D6,if_pos h5]
      ·rw [decide_eq_false h5,C8,if_neg h5]
       by_cases h6:(a03 t).2=false
       ·rw [h6,Bool.not_false,D6,if_pos rfl]
       ·rw [if_neg h6,Bool.not_eq_false _ |>.mp h6,Bool.not_true,C8]
        by_cases h7:(g.1.getD (D3 g.1 t.1) o5).2.1 < (a03 t).1
        ·rw [decide_eq_true h7,D6,if_pos h7]
        ·rw [decide_eq_false h7,C8,if_neg h7,b6f (by omega) (by omega),Option.bind_some]
         by_cases h8:256 < (a95 g t (a03 t).1).1.length
         ·rw [if_pos h8,decide_eq_true (by omega),D6]
         ·rw [if_neg h8,decide_eq_false (by omega),C8]
  ·rw [decide_eq_false h1,Bool.not_false,D6,if_pos h1]
 ·rw [if_neg hf,if_pos hf]
  rfl
def rsF (g:o7) (p:Int) (raw:List UInt8):U0:=
 if b2f g ≠ 0 then(1,[],0,0,0)
 else if(a2N raw).2 ≠ 0 then((a2N raw).2,[],0,0,0)
 else(b3x g p (a2N raw).1 ((raw.length:Nat):Int),(a2N raw).1.1,(a2N raw).1.2.1,(a2N raw).1.2.2.1,b4M (a2N raw).1.2.2.2.1 (a2N raw).1.2.2.1)
def c5G (g:o7) (p:Int) (raw:List UInt8):o7:=
 if(rsF g p raw).1=0 then a95 g (a2N raw).1 (a03 (a2N raw).1).1 else g
def a69 (g:o7) (p:Int) (raw:List UInt8):o7 × U0:=(c5G g p raw,rsF g p raw)
theorem b7m {g:o7} {p:Int} {t:o8} {n:Int} (h:b3x g p t n=0):D3 g.1 t.1 < g.1.length:=by
 refine Classical.byContradiction fun hf=>?_
 unfold b3x at h
 rw [if_pos hf] at h
 cases h
theorem b14 {g:o7} {p:Int} {raw:List UInt8} (hv:b2f g ≠ 0):a69 g p raw=(g,(1,[],0,0,0)):=by
 have h:rsF g p raw=(1,[],0,0,0):=by unfold rsF;rw [if_pos hv]
 unfold a69 c5G
 rw [h,if_neg (by decide)]
theorem b15 {g:o7} {p:Int} {raw:List UInt8} (hv:b2f g=0) (hd:(a2N raw).2 ≠ 0):a69 g p raw=(g,((a2N raw).2,[],0,0,0)):=by
 have h:rsF g p raw=((a2N raw).2,[],0,0,0):=by unfold rsF;rw [if_neg (fun h=>h hv),if_pos hd]
 unfold a69 c5G
 rw [h,if_neg hd]
theorem b16 {g:o7} {p:Int} {raw:List UInt8} (hv:b2f g=0) (hd:(a2N raw).2=0):a69 g p raw=(if b3x g p (a2N raw).1 ((raw.length:Nat):Int)=0 then a95 g (a2N raw).1 (a03 (a2N raw).1).1 else g,(b3x g p (a2N raw).1 ((raw.length:Nat):Int),(a2N raw).1.1,(a2N raw).1.2.1,(a2N raw).1.2.2.1,b4M (a2N raw).1.2.2.2.1 (a2N raw).1.2.2.1)):=by
 have h:rsF g p raw=(b3x g p (a2N raw).1 ((raw.length:Nat):Int),(a2N raw).1.1,(a2N raw).1.2.1,(a2N raw).1.2.2.1,b4M (a2N raw).1.2.2.2.1 (a2N raw).1.2.2.1):=by unfold rsF;rw [if_neg (fun h=>h hv),if_neg (fun h=>h hd)]
 unfold a69 c5G
 rw [h]
theorem c3O {g:o7} {p:Int} {raw:List UInt8} (hg:c36 g) (hp:okU p) (hr:raw.length<=1000000):a2u g p raw=some (a69 g p raw):=by
 have hgl:=hg.2.2.2
 unfold a2u
 rw [c3t hgl,Option.bind_some,c1m hg,Option.bind_some]
 by_cases hv:b2f g=0
 ·have hgd:=b5Z.1 hv
  rw [decide_eq_true hv,Bool.not_true,C8,b9P (by omega),Option.bind_some]
  by_cases hd:(a2N raw).2=0
  ·have hts:=c2u raw
   rw [b16 hv hd,decide_eq_true hd,Bool.not_true,C8,b7l hgd.2.2.1 (by have:=hgd.1;omega) hts hp,Option.bind_some,b7i hts.2.2.2.1 hts.2.2.1,Option.bind_some]
   by_cases hc:b3x g p (a2N raw).1 ((raw.length:Nat):Int)=0
   ·rw [decide_eq_true hc,D6,if_pos hc,b7h hgd.2.2.1 (by have:=hgd.1;omega) hts (b7m hc),Option.bind_some]
   ·rw [decide_eq_false hc,C8,if_neg hc]
  ·rw [b15 hv hd,decide_eq_false hd,Bool.not_false,D6]
 ·rw [b14 hv,decide_eq_false hv,Bool.not_false,D6]
theorem c5n {g:o7} {p:Int} {raw:List UInt8} (hg:c36 g) (hp:okU p) (hr:raw.length<=1000000):Z7 g p raw=some (a69 g p raw):=by
 unfold Z7
 rw [c3o hg,Option.bind_some]
 by_cases hv:b2f g=0
 ·have hgd:=b5Z.1 hv
  rw [decide_eq_true hv,Bool.not_true,C8,b7g (by omega),Option.bind_some]
  by_cases hd:(a2N raw).2=0
  ·have hts:=c2u raw
   have htl:=hts.2.2.2.2.2.1
   rw [b16 hv hd,decide_eq_true hd,Bool.not_true,C8,b9Y (by have:=hgd.1;omega) hts hp,Option.bind_some,b9W hts.2.2.2.1 hts.2.2.1,Option.bind_some]
   by_cases hc:b3x g p (a2N raw).1 ((raw.length:Nat):Int)=0
   ·rw [decide_eq_true hc,Bool.not_true,C8,if_pos hc,b6e hts,Option.bind_some,b6f (by have:=hgd.1;omega) (by omega),Option.bind_some]
   ·rw [decide_eq_false hc,Bool.not_false,D6,if_neg hc]
  ·rw [b15 hv hd,decide_eq_false hd,Bool.not_false,D6]
 ·rw [b14 hv,decide_eq_false hv,Bool.not_false,D6]
end Go.Proofs.YtbipjlehhlkghaaDoor.Am
namespace Go.Proofs.YtbipjlehhlkghaaDoor.Am
open Go
theorem b6g:okU 0:=⟨by omega,by omega⟩
def c5o (n:Nat) (g:o7):Prop:=g.1.length<=n/\(∀ a ∈ g.1,c6s a)/\okU g.2
theorem c6s.len {a:o3} (h:c6s a):a.1.length<=1000000000000000:=by have:=h.1.2;omega
theorem c5o.b {n:Nat} {g:o7} (h:c5o n g) (hn:n<=1000000):c36 g:=⟨h.2.2,fun a ha=>(h.2.1 a ha).2.1,fun a ha=>(h.2.1 a ha).len,by have:=h.1;omega⟩
theorem c5o.mono {n m:Nat} {g:o7} (h:c5o n g) (hn:n<=m):c5o m g:=⟨Nat.le_trans h.1 hn,h.2⟩
theorem c3P {g:o7} {p:Int} {t:o8} {n:Int} (h:b3x g p t n=0):(a95 g t (a03 t).1).1.length<=256:=by
 refine Classical.byContradiction fun hf=>?_
 have hf:256 < (a95 g t (a03 t).1).1.length:=by omega
 unfold b3x at h
 repeat' split at h
 all_goals first | cases h | exact absurd hf ‹_›
theorem b7n (g:o7) (p:Int) (raw:List UInt8):((a69 g p raw).1=g/\(a69 g p raw).2.1 ≠ 0)\/(b2f g=0/\(a2N raw).2=0/\b3x g p (a2N raw).1 ((raw.length:Nat):Int)=0/\(a69 g p raw).1=a95 g (a2N raw).1 (a03 (a2N raw).1).1/\(a69 g p raw).2.1=0/\(a69 g p raw).2.2.1=(a2N raw).1.1):=by
 by_cases hv:b2f g=0
 ·by_cases hd:(a2N raw).2=0
  ·rw [b16 hv hd]
   by_cases hc:b3x g p (a2N raw).1 ((raw.length:Nat):Int)=0
   ·rw [if_pos hc]
    exact .inr ⟨hv,hd,hc,rfl,hc,rfl⟩
   ·rw [if_neg hc]
    exact .inl ⟨rfl,hc⟩
  ·rw [b15 hv hd]
   exact .inl ⟨rfl,hd⟩
 ·rw [b14 hv]
  exact .inl ⟨rfl,fun h=>by cases h⟩
theorem c1N (t:o8):(c3J t).1.length<=4096:=by
 unfold c3J
 split
 ·split
  ·simp
  ·dsimp only;omega
 ·simp
end Go.Proofs.YtbipjlehhlkghaaDoor.Am
namespace Go.Proofs.YtbipjlehhlkghaaDoor.Am
open Go
theorem c1O (x:o3):U.beq A1 x x=true:=(U.beq_iff A1 _ rfl x x).2 rfl
theorem c1P (x:U0):U.beq a1u x x=true:=(U.beq_iff a1u _ rfl x x).2 rfl
theorem b9Z {g:o7} (hl:g.1.length<=5000000000000):H5 g g=some true:=by
 unfold H5
 rw [decide_eq_true rfl,Bool.not_true,C8,decide_eq_true rfl,Bool.not_true,C8]
 refine M9.1 ?_
 unfold W3
 refine I8 g.1 (fun i (_:Unit)=>(((g.1.length:Nat):Int),((i:Nat):Int),g,g)) (fun _ _=>True) (fun i _ hi _=>?_) (fun _ _=>?_) (b0:=()) trivial (by omega)
 ·unfold I7
  dsimp only
  rw [decide_eq_true (by omega:(i:Int) < ((g.1.length:Nat):Int)),D6,decide_eq_true (by omega:(0:Int)<=(i:Int)/\(i:Int) < ((g.1.length:Nat):Int)),E5,E5,show U.beq A1 (List.getD g.1 (Int.toNat (i:Int)) o5) (List.getD g.1 (Int.toNat (i:Int)) o5)=true from c1O _,Bool.not_true,C8,A0,A8,H0 (by omega)]
  exact⟨(),rfl,trivial⟩
 ·unfold I7
  dsimp only
  rw [decide_eq_false (by omega),C8,A0,A6]
end Go.Proofs.YtbipjlehhlkghaaDoor.Am
namespace Go.Proofs.YtbipjlehhlkghaaDoor.Am
open Go
theorem b6h {x n:Int} (hn:1<=n) (hn2:n<=4611686018427387904):Ok (O7 x n) fun r=>0<=r/\r < n/\r=x % n:=by
 have h1:=Int.tmod_eq_emod (a:=x) (b:=n)
 have h2:=Int.emod_nonneg x (show n ≠ 0 by omega)
 have h3:=Int.emod_lt_of_pos x (show 0 < n by omega)
 have h4:((n.natAbs:Nat):Int)=n:=by omega
 simp only [O7,B7,C6,A0,decide_eq_true_eq,decide_eq_false_iff_not,Bool.not_eq_true']
 refine⟨by omega,fun h=>?_,fun h=>?_⟩
 ·rw [D9]
  ·split at h1 <;> omega
  ·split at h1 <;> omega
  ·split at h1 <;> omega
 ·split at h1 <;> omega
end Go.Proofs.YtbipjlehhlkghaaDoor.Am
namespace Go.Proofs.YtbipjlehhlkghaaDoor.Am
open Go
theorem c3Q:Ok (N8.bind fun r=>some r) (· =true):=⟨true,by rw [a5z];rfl,rfl⟩
def c37 (x:o4):Prop:=(x.1=[(120:UInt8)]\/x.1=[(121:UInt8)]\/x.1=[(122:UInt8)])/\x.2=1
theorem c37.m {x:o4} (h:c37 x):TrM x:=by
 obtain⟨h1,h2⟩:=h
 refine⟨?_,by omega,by omega⟩
 rcases h1 with e | e | e <;> rw [e] <;> exact⟨by decide,by decide⟩
theorem c3R {x:o4} (h:c37 x):∀ f ∈ trF x,b0Q 1 f:=by
 obtain⟨h1,h2⟩:=h
 refine a8e (b0R (by omega) (by omega) ?_) (a75 (by omega) (by omega) (by rw [h2];exact⟨by decide,by decide⟩))
 rcases h1 with e | e | e <;> rw [e] <;> exact Nat.le_refl _
theorem u_0:a7g 0:=⟨by decide,by decide⟩
theorem c1Q:a7g 500:=⟨by decide,by decide⟩
theorem c3S {l:List o4} (h1:1<=l.length) (h5:l.length<=5) (h:∀ x ∈ l,c37 x):(c3J ([(97:UInt8)],(0:Int),500,500,[],l)).2=0:=by
 have hv:a1l ([(97:UInt8)],(0:Int),500,500,[],l)=0:=by
  unfold a1l
  dsimp only
  rw [if_pos (by decide),if_neg (by decide),if_pos (by decide),if_neg (by omega),if_neg (by omega)]
  exact a9A fun x hx=>(h x hx).m
 have hs:∀ f ∈ txF ([(97:UInt8)],(0:Int),500,500,[],l),b0Q 42 f:=by
  unfold txF
  refine a8e (a8e (b0R (by omega) (by omega) (by simp)) (a8e (a75 (by omega) (by omega) u_0) (a8e (a75 (by omega) (by omega) c1Q) (a8e (a75 (by omega) (by omega) c1Q) (b0R (by omega) (by omega) (by simp)))))) fun f hf=>?_
  obtain⟨x,hx,rfl⟩:=List.mem_map.1 hf
  have h2:=a9B (m:=1) (by omega) (c3R (h x hx))
  have h3:(trF x).length<=2:=by
   unfold trF
   have a:=a0u 1 x.1
   have b:=a0v 2 x.2
   rw [List.length_append];omega
  refine⟨by simp [b1V,Fld.ok],by unfold U64 b1V;simp,?_⟩
  show(Y5 (trF x)).length<=42
  have h4:(trF x).length * (1 + 20)<=2 * 21:=Nat.mul_le_mul h3 (Nat.le_refl _)
  omega
 have hl:(txF ([(97:UInt8)],(0:Int),500,500,[],l)).length<=10:=by
  unfold txF hdF
  have a1:=a0u 1 [(97:UInt8)]
  have a2:=a0v 2 0
  have a3:=a0v 3 500
  have a4:=a0v 4 500
  have a5:=a0u 5 []
  simp only [List.length_append,List.length_map]
  omega
 have hle:=a9B (m:=42) (by omega) hs
 have h4:(txF ([(97:UInt8)],(0:Int),500,500,[],l)).length * (42 + 20)<=10 * 62:=Nat.mul_le_mul hl (Nat.le_refl _)
 unfold c3J
 rw [if_pos hv,if_neg (by omega)]
theorem c5p {l0:List o3} {l:List o4} (h1:1<=l.length) (h5:l.length<=5) (h:∀ x ∈ l,c37 x) (hl:l0.length<=255) (ha:∀ a ∈ l0,okU a.2.1/\a.1.length<=3):Ok (H7 0 [(97:UInt8)] 0 500 500 [] l0 l) (· =true):=by
 have hM:∀ x ∈ l,TrM x:=fun x hx=>(h x hx).m
 have hs:TxS ([(97:UInt8)],(0:Int),500,500,[],l):=⟨by simp,u_0,c1Q,c1Q,by simp,by dsimp only;omega,fun x hx=>⟨by have:=(hM x hx).1.2;omega,by have:=(hM x hx).2;exact⟨by omega,this.2⟩⟩⟩
 have hg:c36 (l0,(0:Int)):=⟨b6g,fun a hx=>(ha a hx).1,fun a hx=>by have:=(ha a hx).2;omega,by dsimp only;omega⟩
 have hu1:okU 1:=⟨by decide,by decide⟩
 have he:=c1N ([(97:UInt8)],(0:Int),500,500,[],l)
 unfold H7
 rw [b7c hs.b hs.n,Option.bind_some,c3O hg hu1 (by omega),Option.bind_some,c5n hg hu1 (by omega),Option.bind_some,c3S h1 h5 h,decide_eq_true rfl,D6,c1P,D6]
 generalize (c3J ([(97:UInt8)],(0:Int),500,500,[],l)).1=raw
 have hlen:(a69 (l0,(0:Int)) 1 raw).1.1.length<=256:=by
  rcases b7n (l0,(0:Int)) 1 raw with⟨e,_⟩ | ⟨_,_,hc,e,_⟩
  ·rw [e];dsimp only;omega
  ·rw [e];exact c3P hc
 rw [b9Z (by omega),Option.bind_some,D6,decide_eq_true (by omega),D6]
 exact c3Q
theorem c5q {v1:Int} {l0:List o3} (hl:l0.length<=255) (ha:∀ a ∈ l0,okU a.2.1/\a.1.length<=3):Ok (H8 v1 0 l0) (· =true):=by
 unfold H8
 rw [B6]
 refine(b6h (x:=v1) (n:=5) (by omega) (by omega)).mono fun r h=>?_
 obtain⟨p0,p1,_⟩:=h
 unfold U1
 refine a36 (fun n v=>∃ (i:Nat) (l:List o4),v=(((i:Int) - 1),(0:Int),[(97:UInt8)],(0:Int),(500:Int),(500:Int),[],l0,l)/\n=i/\i + l.length=(r + 1).toNat/\∀ x ∈ l,c37 x) ?_ (n:=(r + 1).toNat) ⟨(r + 1).toNat,[],by rw [Int.toNat_of_nonneg (by omega),Int.add_sub_cancel],rfl,by simp,fun x hx=>(by cases hx)⟩ (by omega)
 rintro n v ⟨i,l,rfl,rfl,hi,hx⟩
 unfold M7
 dsimp only
 rw [B7]
 refine⟨fun h=>?_,fun h=>?_⟩
 ·have h:=of_decide_eq_true h
  obtain⟨k,hk⟩:∃ k:Nat,n=k + 1:=⟨n - 1,by omega⟩
  subst hk
  have hk4:Int.tmod (((k + 1:Nat):Int) - 1) 4=((k % 4:Nat):Int):=by
   rw [show(((k + 1:Nat):Int) - 1)=(k:Int) by omega];rfl
  have hw:B0 ((((k + 1:Nat):Int) - 1) - 1)=((k:Int) - 1):=by rw [D9] <;> omega
  rw [hk4,hw,decide_eq_true (by omega:(0:Int)<=((k % 4:Nat):Int)/\((k % 4:Nat):Int) < 4),E5,Int.toNat_natCast,decide_eq_true (by omega:k % 4 < 4),E5,decide_eq_true ⟨by unfold LIM;omega,by unfold LEN;omega⟩,E5,A0,A8]
  refine⟨k,by omega,k,_,rfl,rfl,by rw [List.length_append,List.length_singleton];omega,fun x hm=>?_⟩
  rcases List.mem_append.1 hm with hm | hm
  ·exact hx x hm
  ·rw [List.mem_singleton.1 hm]
   refine⟨?_,rfl⟩
   have hk:k % 4 < 4:=Nat.mod_lt _ (by omega)
   generalize k % 4=j at hk
   match j,hk with
   | 0,_=>exact .inl rfl
   | 1,_=>exact .inr (.inl rfl)
   | 2,_=>exact .inr (.inr rfl)
   | 3,_=>exact .inl rfl
 ·have h:=of_decide_eq_false h
  rw [C1]
  refine(c5p (by omega) (by omega) hx hl ha).mono fun r hr=>?_
  subst hr;rfl
theorem a9K (x0 x1:Int) (_:wfU (.int .i64) x0) (_:wfU (.int .i64) x1) (_:szU (.int .i64) x0) (_:szU (.int .i64) x1):K3 x0 x1=some true:=by
 refine M9.1 ?_
 unfold K3
 rw [B6]
 refine(b6h (x:=x0) (n:=3) (by omega) (by omega)).mono fun r h=>?_
 obtain⟨p0,p1,_⟩:=h
 rw [D9 (by omega) (by omega)]
 unfold U2
 refine a36 (fun n v=>∃ (i:Nat) (l:List o3),v=(x1,(i:Int),(0:Int),l)/\n=i/\i + l.length<=255/\∀ a ∈ l,okU a.2.1/\a.1.length<=3) ?_ (n:=(254 - r).toNat) ⟨(254 - r).toNat,_,by rw [Int.toNat_of_nonneg (by omega)],rfl,by simp only [List.length_singleton];omega,fun a ha=>by rw [List.mem_singleton.1 ha];exact⟨⟨by decide,by decide⟩,by decide⟩⟩ (by omega)
 rintro n v ⟨i,l,rfl,rfl,hi,ha⟩
 unfold M8
 dsimp only
 rw [B7]
 refine⟨fun h=>?_,fun h=>?_⟩
 ·have h:=of_decide_eq_true h
  have hw:B0 ((n:Int) - 1)=((n - 1:Nat):Int):=by rw [D9] <;> omega
  rw [decide_eq_true (b25 _),E5,decide_eq_true (b25 _),E5,decide_eq_true ⟨by unfold LIM;omega,by unfold LEN;omega⟩,E5,A0,A8,hw]
  refine⟨n - 1,by omega,n - 1,_,rfl,rfl,by rw [List.length_append,List.length_singleton];omega,fun a hm=>?_⟩
  rcases List.mem_append.1 hm with hm | hm
  ·exact ha a hm
  ·rw [List.mem_singleton.1 hm]
   exact⟨b6g,by simp⟩
 ·have h:=of_decide_eq_false h
  rw [C1]
  refine(c5q (by omega) ha).mono fun r hr=>?_
  subst hr;rfl
end Go.Proofs.YtbipjlehhlkghaaDoor.Am
