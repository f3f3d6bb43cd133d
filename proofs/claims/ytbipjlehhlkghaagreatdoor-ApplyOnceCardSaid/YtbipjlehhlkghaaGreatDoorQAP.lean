/- Texts laid together: PTx, PStep, PSameL. No conditions. -/
import Derived.Test.YtbipjlehhlkghaaGreatDoorQAO
import Derived.Test.YtbipjlehhlkghaaGreatDoorQAF
namespace Go.Proofs.YtbipjlehhlkghaaGreatDoor.Am
open Go
def d6p (n:Int):Int:=B1 (min (max n 0) 1073741824)
def c25 (a b:Int):Int:=B1 (B1 (50 + B1 (1 * d6p a)) + B1 (20 * d6p b))
theorem c8C (a b:Int):b4S a b=some (c25 a b):=rfl
theorem c4G (a b:Int):a0t a b=some (c25 a b):=by
 have h:∀ n:Int,S7 n=some (d6p n):=fun n=>by
  unfold S7 d6p
  rw [show max 0 (min n 1073741824)=min (max n 0) 1073741824 by omega]
 unfold a0t
 rw [h,Option.bind_some,h,Option.bind_some];rfl
def b5Q (a p:Int):Int × Bool:=d3l a.toNat p.toNat
theorem c8D {a p:Int} (ha:okU a) (hp:okU p):b11 a p=some (b5Q a p):=by
 obtain⟨x,rfl⟩:=Int.eq_ofNat_of_zero_le ha.1
 obtain⟨y,rfl⟩:=Int.eq_ofNat_of_zero_le hp.1
 have h1:=ha.2
 have h2:=hp.2
 unfold b11 b5Q
 rw [d0E (by omega) (by omega)];rfl
theorem c4H {a p:Int} (ha:okU a) (hp:okU p):a0u a p=some (b5Q a p):=by
 obtain⟨x,rfl⟩:=Int.eq_ofNat_of_zero_le ha.1
 obtain⟨y,rfl⟩:=Int.eq_ofNat_of_zero_le hp.1
 have h1:=ha.2
 have h2:=hp.2
 unfold a0u b5Q
 rw [d3m (by omega) (by omega)];rfl
def c26 (fee gas:Int):Int:=c8m fee.toNat gas.toNat
theorem c5T {a p:Int} (ha:okU a) (hp:okU p):a4w a p=some (c26 a p):=by
 obtain⟨x,rfl⟩:=Int.eq_ofNat_of_zero_le ha.1
 obtain⟨y,rfl⟩:=Int.eq_ofNat_of_zero_le hp.1
 have h1:=ha.2
 have h2:=hp.2
 unfold c26
 rw [c8n (by omega) (by omega)];rfl
theorem c8E {a p:Int} (ha:okU a) (hp:okU p):Q4 a p=some (c26 a p):=by
 obtain⟨x,rfl⟩:=Int.eq_ofNat_of_zero_le ha.1
 obtain⟨y,rfl⟩:=Int.eq_ofNat_of_zero_le hp.1
 have h1:=ha.2
 have h2:=hp.2
 unfold c26
 rw [d0H (by omega) (by omega)];rfl
theorem c8F {α β:Type} {eq:α->α->Bool} (he:c8d eq) {k:α}:∀ {l:List (α × β)} {i:Nat},b7w eq k l=some i->∃ h:i < l.length,l[i].1=k
 | [],i,h=>by cases h
 | p :: l,i,h=>by
  unfold b7w at h
  by_cases hp:eq k p.1=true
  ·rw [if_pos hp] at h
   cases h
   exact⟨by simp,((he _ _).1 hp).symm⟩
  ·rw [if_neg hp] at h
   cases hm:b7w eq k l with
   | none=>rw [hm] at h;cases h
   | some j=>
    rw [hm] at h
    cases h
    obtain⟨h1,h2⟩:=c8F he hm
    exact⟨by simp only [List.length_cons];omega,by simpa using h2⟩
theorem d3E {l:List (List UInt8 × Vector UInt8 0)} {k:List UInt8} {v:Vector UInt8 0} (h:k ∈ b1b l):c6f b5K k v l=l:=by
 have hs:=(b3r b9H k l).2 h
 cases hm:b7w b5K k l with
 | none=>rw [hm] at hs;cases hs
 | some i=>
  obtain⟨h1,h2⟩:=c8F b9H hm
  unfold c6f
  rw [hm]
  show l.set i (k,v)=l
  have hv:v=l[i].2:=Vector.ext fun j hj=>by omega
  rw [<-h2,hv]
  exact List.set_getElem_self h1
theorem c5U {g:o6} {t:A7} {P:List o7} (hs:Srt g.1) (hl:g.1.length<=1000000) (ht:t.2.2.2.2.2.length<=2000) (hP:∀ n,n ∈ G9 P ↔ n ∈ G9 g.1) (hPl:P.length=g.1.length):a7H g t=some (((((t.2.2.2.2.2.foldl V2 P).length - g.1.length:Nat)):Nat):Int):=by
 rw [<-L4]
 unfold a7H a9x
 refine E7 t.2.2.2.2.2 (fun i (m:List (List UInt8 × Vector UInt8 0))=>(t.2.2.2.2.2,((t.2.2.2.2.2.length:Nat):Int),((i:Nat):Int),g,m)) (fun i m=>(∀ n,n ∈ b1b m ↔ n ∈ G9 ((t.2.2.2.2.2.take i).foldl V2 P)/\n ∉ G9 g.1)/\m.length + g.1.length=((t.2.2.2.2.2.take i).foldl V2 P).length/\∀ n ∈ G9 g.1,n ∈ G9 ((t.2.2.2.2.2.take i).foldl V2 P)) (fun i m hi hv=>?_) (fun m hv=>?_) (b0:=[]) ⟨fun n=>⟨fun h=>(by cases h),fun h=>absurd ((hP n).1 h.1) h.2⟩,by rw [List.take_zero,List.foldl_nil,hPl,List.length_nil,Nat.zero_add],fun n h=>(hP n).2 h⟩ (by omega)
 ·obtain⟨hv1,hv2,hv3⟩:=hv
  unfold a4E
  dsimp only
  rw [decide_eq_true (by omega:(i:Int) < ((t.2.2.2.2.2.length:Nat):Int)),E4,decide_eq_true (by omega:(0:Int)<=(i:Int)/\(i:Int) < ((t.2.2.2.2.2.length:Nat):Int)),C4,Int.toNat_natCast,D8 hi,b16 (g:=g) hs (by omega),Option.bind_some,b7k hi]
  generalize t.2.2.2.2.2[i]=x
  generalize (t.2.2.2.2.2.take i).foldl V2 P=Q at hv1 hv2 hv3
  dsimp only
  have hsub:∀ n ∈ G9 g.1,n ∈ G9 (V2 Q x):=fun n h=>(a5l Q x n).2 (.inr (hv3 n h))
  by_cases hx:E9 g.1 x.1 < g.1.length
  ·have hxn:=a2Y.1 hx
   rw [decide_eq_true hx,Bool.not_true,C6,A3,B4,E2 (by omega)]
   refine⟨_,rfl,fun n=>?_,?_,hsub⟩
   ·rw [hv1 n,a5l]
    refine⟨fun h=>⟨.inr h.1,h.2⟩,fun h=>⟨?_,h.2⟩⟩
    rcases h.1 with rfl | h1
    ·exact absurd hxn h.2
    ·exact h1
   ·rw [b4u,if_pos (a2Y.2 (hv3 _ hxn))]
    exact hv2
  ·have hxn:x.1 ∉ G9 g.1:=fun h=>hx (a2Y.2 h)
   rw [decide_eq_false hx,Bool.not_false,E4,A3,B4,E2 (by omega)]
   refine⟨_,rfl,?_⟩
   by_cases hq:x.1 ∈ G9 Q
   ·rw [d3E ((hv1 x.1).2 ⟨hq,hxn⟩),b4u,if_pos (a2Y.2 hq)]
    refine⟨fun n=>?_,hv2,hsub⟩
    rw [hv1 n,a5l]
    refine⟨fun h=>⟨.inr h.1,h.2⟩,fun h=>⟨?_,h.2⟩⟩
    rcases h.1 with rfl | h1
    ·exact hq
    ·exact h1
   ·rw [d0z b9H (fun h=>hq ((hv1 x.1).1 h).1),b4u,if_neg (fun h=>hq (a2Y.1 h)),List.length_append]
    refine⟨fun n=>?_,by simp only [List.length_cons,List.length_nil];omega,hsub⟩
    have hk:n ∈ b1b (m ++ [(x.1,Vector.replicate 0 (0:UInt8))]) ↔ n ∈ b1b m\/n=x.1:=by
     unfold b1b
     rw [List.map_append,List.mem_append,List.map_cons,List.map_nil,List.mem_singleton]
    rw [hk,hv1 n,a5l]
    constructor
    ·rintro(h | rfl)
     ·exact⟨.inr h.1,h.2⟩
     ·exact⟨.inl rfl,hxn⟩
    ·rintro⟨rfl | h,h2⟩
     ·exact .inr rfl
     ·exact .inl ⟨h,h2⟩
 ·rw [List.take_length] at hv
  unfold a4E
  dsimp only
  rw [decide_eq_false (by omega),C6,A3,B8,<-hv.2.1,Nat.add_sub_cancel]
theorem b17 {l:List o7} {n:List UInt8} {sum:Int} (h:E9 l n < l.length):G9 (a3m l n sum)=G9 l:=by
 rw [a6F h]
 exact c1s (a:=(l[E9 l n].1,B1 (l[E9 l n].2.1 - sum),B1 (l[E9 l n].2.2 + 1))) h rfl
theorem d3F (l:List TR) (a:List o7):a.length<=(l.foldl V2 a).length:=by
 induction l generalizing a with
 | nil=>simp
 | cons x l ih=>
  have h1:=ih (V2 a x)
  have h2:=b4u a x
  rw [List.foldl_cons]
  split at h2 <;> omega
def b7R (g:o6) (p:Int) (t:A7) (n:Int):Int:=
 if ¬ E9 g.1 t.1 < g.1.length then 13
 else if(g.1.getD (E9 g.1 t.1) o9).2.2 ≠ t.2.1 then 14
 else if t.2.1=18446744073709551615 then 6
 else if t.2.2.1 < c25 n ((t.2.2.2.2.2.length:Nat):Int) then 15
 else if(b5Q t.2.2.1 p).2=false then 6
 else if t.2.2.2.1 < (b5Q t.2.2.1 p).1 then 16
 else if(Z0 t).2=false then 6
 else if(g.1.getD (E9 g.1 t.1) o9).2.1 < (Z0 t).1 then 17
 else if 256 < (b4v g t (Z0 t).1).1.length then 3
 else 0
theorem d0X {g:o6} {t:A7} {s:Int}:(b4v g t s).1=t.2.2.2.2.2.foldl V2 (a3m g.1 t.1 s):=rfl
theorem c5V {g:o6} {p:Int} {t:A7} {n:Int} (hs:Srt g.1) (hl:g.1.length<=1000000) (ht:TxS t) (hp:okU p):a7I g p t n=some (b7R g p t n):=by
 have htl:=ht.2.2.2.2.2.1
 unfold a7I b7R
 rw [b16 (g:=g) hs (by omega),Option.bind_some]
 dsimp only
 by_cases hf:E9 g.1 t.1 < g.1.length
 ·rw [decide_eq_true hf,Bool.not_true,C6,if_neg (fun h=>h hf),b4W hs hf,decide_eq_true (by omega:(0:Int)<=((E9 g.1 t.1:Nat):Int)/\((E9 g.1 t.1:Nat):Int) < ((g.1.length:Nat):Int)),C4,Int.toNat_natCast]
  by_cases h1:(g.1.getD (E9 g.1 t.1) o9).2.2=t.2.1
  ·rw [decide_eq_true h1,Bool.not_true,C6,if_neg (fun h=>h h1),h1]
   by_cases h2:t.2.1=18446744073709551615
   ·rw [decide_eq_true h2,E4,if_pos h2]
   ·rw [decide_eq_false h2,C6,if_neg h2,c8C,Option.bind_some]
    by_cases h3:t.2.2.1 < c25 n ((t.2.2.2.2.2.length:Nat):Int)
    ·rw [decide_eq_true h3,E4,if_pos h3]
    ·rw [decide_eq_false h3,C6,if_neg h3,c8D ht.2.2.1 hp,Option.bind_some]
     by_cases h4:(b5Q t.2.2.1 p).2=false
     ·rw [h4,Bool.not_false,E4,if_pos rfl]
     ·rw [if_neg h4,Bool.not_eq_false _ |>.mp h4,Bool.not_true,C6]
      by_cases h5:t.2.2.2.1 < (b5Q t.2.2.1 p).1
      ·rw [decide_eq_true h5,E4,if_pos h5]
      ·rw [decide_eq_false h5,C6,if_neg h5,c1t ht,Option.bind_some]
       by_cases h6:(Z0 t).2=false
       ·rw [h6,Bool.not_false,E4,if_pos rfl]
       ·rw [if_neg h6,Bool.not_eq_false _ |>.mp h6,Bool.not_true,C6]
        by_cases h7:(g.1.getD (E9 g.1 t.1) o9).2.1 < (Z0 t).1
        ·rw [decide_eq_true h7,E4,if_pos h7]
        ·rw [decide_eq_false h7,C6,if_neg h7]
         have hpl:(a3m g.1 t.1 (Z0 t).1).length=g.1.length:=by rw [a6F hf,List.length_set]
         have hge:=d3F t.2.2.2.2.2 (a3m g.1 t.1 (Z0 t).1)
         have hle:=b9V t.2.2.2.2.2 (a3m g.1 t.1 (Z0 t).1)
         rw [c5U (P:=a3m g.1 t.1 (Z0 t).1) hs hl (by omega) (fun m=>by rw [b17 hf]) hpl,Option.bind_some,d0X]
         rw [E0 (by omega) (by omega)]
         by_cases h8:256 < (t.2.2.2.2.2.foldl V2 (a3m g.1 t.1 (Z0 t).1)).length
         ·rw [if_pos h8,decide_eq_true (by omega),E4]
         ·rw [if_neg h8,decide_eq_false (by omega),C6]
  ·rw [decide_eq_false h1,Bool.not_false,E4,if_pos h1]
 ·rw [decide_eq_false hf,Bool.not_false,E4,if_pos hf]
theorem c8G {g:o6} {p:Int} {t:A7} {n:Int} (hl:g.1.length<=1000000) (ht:TxS t) (hp:okU p):a1K g p t n=some (b7R g p t n):=by
 have htl:=ht.2.2.2.2.2.1
 unfold a1K b7R
 rw [b9F (by omega),Option.bind_some]
 unfold c06
 by_cases hf:E9 g.1 t.1 < g.1.length
 ·rw [if_pos hf,if_neg (fun h=>h hf)]
  dsimp only
  rw [Bool.not_true,C6]
  by_cases h1:(g.1.getD (E9 g.1 t.1) o9).2.2=t.2.1
  ·rw [decide_eq_true h1,Bool.not_true,C6,if_neg (fun h=>h h1)]
   by_cases h2:t.2.1=18446744073709551615
   ·rw [decide_eq_true h2,E4,if_pos h2]
   ·rw [decide_eq_false h2,C6,if_neg h2,c4G,Option.bind_some]
    by_cases h3:t.2.2.1 < c25 n ((t.2.2.2.2.2.length:Nat):Int)
    ·rw [decide_eq_true h3,E4,if_pos h3]
    ·rw [decide_eq_false h3,C6,if_neg h3,c4H ht.2.2.1 hp,Option.bind_some,c4D ht,Option.bind_some]
     by_cases h4:(b5Q t.2.2.1 p).2=false
     ·rw [h4,Bool.not_false,E4,if_pos rfl]
     ·rw [if_neg h4,Bool.not_eq_false _ |>.mp h4,Bool.not_true,C6]
      by_cases h5:t.2.2.2.1 < (b5Q t.2.2.1 p).1
      ·rw [decide_eq_true h5,E4,if_pos h5]
      ·rw [decide_eq_false h5,C6,if_neg h5]
       by_cases h6:(Z0 t).2=false
       ·rw [h6,Bool.not_false,E4,if_pos rfl]
       ·rw [if_neg h6,Bool.not_eq_false _ |>.mp h6,Bool.not_true,C6]
        by_cases h7:(g.1.getD (E9 g.1 t.1) o9).2.1 < (Z0 t).1
        ·rw [decide_eq_true h7,E4,if_pos h7]
        ·rw [decide_eq_false h7,C6,if_neg h7,c4F (by omega) (by omega),Option.bind_some]
         by_cases h8:256 < (b4v g t (Z0 t).1).1.length
         ·rw [if_pos h8,decide_eq_true (by omega),E4]
         ·rw [if_neg h8,decide_eq_false (by omega),C6]
  ·rw [decide_eq_false h1,Bool.not_false,E4,if_pos h1]
 ·rw [if_neg hf,if_pos hf]
  rfl
def rsF (g:o6) (p:Int) (raw:List UInt8):A6:=
 if b9D g ≠ 0 then(1,[],0,0,0)
 else if(a2X raw).2 ≠ 0 then((a2X raw).2,[],0,0,0)
 else(b7R g p (a2X raw).1 ((raw.length:Nat):Int),(a2X raw).1.1,(a2X raw).1.2.1,(a2X raw).1.2.2.1,c26 (a2X raw).1.2.2.2.1 (a2X raw).1.2.2.1)
def d6q (g:o6) (p:Int) (raw:List UInt8):o6:=
 if(rsF g p raw).1=0 then b4v g (a2X raw).1 (Z0 (a2X raw).1).1 else g
def V3 (g:o6) (p:Int) (raw:List UInt8):o6 × A6:=(d6q g p raw,rsF g p raw)
theorem b8F {g:o6} {p:Int} {t:A7} {n:Int} (h:b7R g p t n=0):E9 g.1 t.1 < g.1.length:=by
 refine Classical.byContradiction fun hf=>?_
 unfold b7R at h
 rw [if_pos hf] at h
 cases h
theorem b9W {g:o6} {p:Int} {raw:List UInt8} (hv:b9D g ≠ 0):V3 g p raw=(g,(1,[],0,0,0)):=by
 have h:rsF g p raw=(1,[],0,0,0):=by unfold rsF;rw [if_pos hv]
 unfold V3 d6q
 rw [h,if_neg (by decide)]
theorem b9X {g:o6} {p:Int} {raw:List UInt8} (hv:b9D g=0) (hd:(a2X raw).2 ≠ 0):V3 g p raw=(g,((a2X raw).2,[],0,0,0)):=by
 have h:rsF g p raw=((a2X raw).2,[],0,0,0):=by unfold rsF;rw [if_neg (fun h=>h hv),if_pos hd]
 unfold V3 d6q
 rw [h,if_neg hd]
theorem b6e {g:o6} {p:Int} {raw:List UInt8} (hv:b9D g=0) (hd:(a2X raw).2=0):V3 g p raw=(if b7R g p (a2X raw).1 ((raw.length:Nat):Int)=0 then b4v g (a2X raw).1 (Z0 (a2X raw).1).1 else g,(b7R g p (a2X raw).1 ((raw.length:Nat):Int),(a2X raw).1.1,(a2X raw).1.2.1,(a2X raw).1.2.2.1,c26 (a2X raw).1.2.2.2.1 (a2X raw).1.2.2.1)):=by
 have h:rsF g p raw=(b7R g p (a2X raw).1 ((raw.length:Nat):Int),(a2X raw).1.1,(a2X raw).1.2.1,(a2X raw).1.2.2.1,c26 (a2X raw).1.2.2.2.1 (a2X raw).1.2.2.1):=by unfold rsF;rw [if_neg (fun h=>h hv),if_neg (fun h=>h hd)]
 unfold V3 d6q
 rw [h]
theorem b1w {g:o6} {p:Int} {raw:List UInt8} (hg:b4U g) (hp:okU p) (hr:raw.length<=1000000):a0k g p raw=some (V3 g p raw):=by
 have hgl:=hg.2.2.2
 unfold a0k
 rw [d3j hgl,Option.bind_some,d0w hg,Option.bind_some]
 by_cases hv:b9D g=0
 ·have hgd:=b9J.1 hv
  rw [decide_eq_true hv,Bool.not_true,C6,c8y (by omega),Option.bind_some]
  by_cases hd:(a2X raw).2=0
  ·have hts:=b8E raw
   rw [b6e hv hd,decide_eq_true hd,Bool.not_true,C6,c5V hgd.2.2.1 (by have:=hgd.1;omega) hts hp,Option.bind_some,c5T hts.2.2.2.1 hts.2.2.1,Option.bind_some]
   by_cases hc:b7R g p (a2X raw).1 ((raw.length:Nat):Int)=0
   ·rw [decide_eq_true hc,E4,if_pos hc,c5S hgd.2.2.1 (by have:=hgd.1;omega) hts (b8F hc),Option.bind_some]
   ·rw [decide_eq_false hc,C6,if_neg hc]
  ·rw [b9X hv hd,decide_eq_false hd,Bool.not_false,E4]
 ·rw [b9W hv,decide_eq_false hv,Bool.not_false,E4]
theorem b8G {g:o6} {p:Int} {raw:List UInt8} (hg:b4U g) (hp:okU p) (hr:raw.length<=1000000):M7 g p raw=some (V3 g p raw):=by
 unfold M7
 rw [c2P hg,Option.bind_some]
 by_cases hv:b9D g=0
 ·have hgd:=b9J.1 hv
  rw [decide_eq_true hv,Bool.not_true,C6,c5R (by omega),Option.bind_some]
  by_cases hd:(a2X raw).2=0
  ·have hts:=b8E raw
   have htl:=hts.2.2.2.2.2.1
   rw [b6e hv hd,decide_eq_true hd,Bool.not_true,C6,c8G (by have:=hgd.1;omega) hts hp,Option.bind_some,c8E hts.2.2.2.1 hts.2.2.1,Option.bind_some]
   by_cases hc:b7R g p (a2X raw).1 ((raw.length:Nat):Int)=0
   ·rw [decide_eq_true hc,Bool.not_true,C6,if_pos hc,c4D hts,Option.bind_some,c4F (by have:=hgd.1;omega) (by omega),Option.bind_some]
   ·rw [decide_eq_false hc,Bool.not_false,E4,if_neg hc]
  ·rw [b9X hv hd,decide_eq_false hd,Bool.not_false,E4]
 ·rw [b9W hv,decide_eq_false hv,Bool.not_false,E4]
end Go.Proofs.YtbipjlehhlkghaaGreatDoor.Am
namespace Go.Proofs.YtbipjlehhlkghaaGreatDoor.Am
open Go
theorem c1u:∀ {l:List o8},a8Y l=0->∀ x ∈ l,T4 x.1=true
 | [],_,x,hx=>by cases hx
 | y :: l,h,x,hx=>by
  unfold a8Y at h
  by_cases h1:T4 y.1=true
  ·rw [if_pos h1] at h
   by_cases h2:y.2=0
   ·rw [if_pos h2] at h;cases h
   ·rw [if_neg h2] at h
    rcases List.mem_cons.1 hx with rfl | hx
    ·exact h1
    ·exact c1u h x hx
  ·rw [if_neg h1] at h;cases h
theorem c27 {t:A7} (h:a40 t=0):T4 t.1=true/\∀ x ∈ t.2.2.2.2.2,T4 x.1=true:=by
 unfold a40 at h
 by_cases h1:T4 t.1=true
 ·rw [if_pos h1] at h
  refine⟨h1,?_⟩
  split at h
  ·cases h
  ·split at h
   ·split at h
    ·cases h
    ·split at h
     ·cases h
     ·exact c1u h
   ·cases h
 ·rw [if_neg h1] at h;cases h
theorem d5V {s:List UInt8} (h:T4 s=true):c1m s:=by
 refine⟨h,?_⟩
 unfold T4 at h
 have:=of_decide_eq_true (Bool.and_eq_true _ _ |>.mp h).2
 exact this.2
theorem a4J:okU 0:=⟨by omega,by omega⟩
def c6h (n:Nat) (g:o6):Prop:=g.1.length<=n/\(∀ a ∈ g.1,c2Y a)/\okU g.2
theorem c2Y.len {a:o7} (h:c2Y a):a.1.length<=1000000000000000:=by have:=h.1.2;omega
theorem c6h.b {n:Nat} {g:o6} (h:c6h n g) (hn:n<=1000000):b4U g:=⟨h.2.2,fun a ha=>(h.2.1 a ha).2.1,fun a ha=>(h.2.1 a ha).len,by have:=h.1;omega⟩
theorem c6h.mono {n m:Nat} {g:o6} (h:c6h n g) (hn:n<=m):c6h m g:=⟨Nat.le_trans h.1 hn,h.2⟩
theorem d0Y {l:List o7} {x:TR} (h:∀ a ∈ l,c2Y a) (hx:T4 x.1=true):∀ a ∈ V2 l x,c2Y a:=fun a ha=>by
 rcases c4C ha with h1 | ⟨h1,h2,h3⟩
 ·exact h a h1
 ·refine⟨by rw [h1];exact d5V hx,h2,?_⟩
  rcases h3 with h3 | ⟨b,hb,_,e⟩
  ·rw [h3];exact a4J
  ·rw [e];exact(h b hb).2.2
theorem d0Z {l:List TR} (hl:∀ x ∈ l,T4 x.1=true) {a:List o7} (h:∀ b ∈ a,c2Y b):∀ b ∈ l.foldl V2 a,c2Y b:=by
 induction l generalizing a with
 | nil=>exact h
 | cons x l ih=>exact ih (fun y hy=>hl y (List.mem_cons_of_mem _ hy)) (d0Y h (hl x (List.mem_cons_self ..)))
theorem d00 {l:List o7} {n:List UInt8} {sum:Int} (hf:E9 l n < l.length) (h:∀ a ∈ l,c2Y a):∀ a ∈ a3m l n sum,c2Y a:=fun a ha=>by
 rw [a6F hf] at ha
 rcases List.mem_or_eq_of_mem_set ha with h1 | rfl
 ·exact h a h1
 ·exact⟨(h _ (List.getElem_mem hf)).1,I7 _,I7 _⟩
theorem c8H {g:o6} {p:Int} {t:A7} {n:Int} (h:b7R g p t n=0):(b4v g t (Z0 t).1).1.length<=256:=by
 refine Classical.byContradiction fun hf=>?_
 have hf:256 < (b4v g t (Z0 t).1).1.length:=by omega
 unfold b7R at h
 repeat' split at h
 all_goals first | cases h | exact absurd hf ‹_›
theorem b18 (g:o6) (p:Int) (raw:List UInt8):((V3 g p raw).1=g/\(V3 g p raw).2.1 ≠ 0)\/(b9D g=0/\(a2X raw).2=0/\b7R g p (a2X raw).1 ((raw.length:Nat):Int)=0/\(V3 g p raw).1=b4v g (a2X raw).1 (Z0 (a2X raw).1).1/\(V3 g p raw).2.1=0/\(V3 g p raw).2.2.1=(a2X raw).1.1):=by
 by_cases hv:b9D g=0
 ·by_cases hd:(a2X raw).2=0
  ·rw [b6e hv hd]
   by_cases hc:b7R g p (a2X raw).1 ((raw.length:Nat):Int)=0
   ·rw [if_pos hc]
    exact .inr ⟨hv,hd,hc,rfl,hc,rfl⟩
   ·rw [if_neg hc]
    exact .inl ⟨rfl,hc⟩
  ·rw [b9X hv hd]
   exact .inl ⟨rfl,hd⟩
 ·rw [b9W hv]
  exact .inl ⟨rfl,fun h=>by cases h⟩
theorem d01 {g:o6} {p:Int} {raw:List UInt8} (h:c6h 256 g):c6h 256 (V3 g p raw).1:=by
 rcases b18 g p raw with⟨e,_⟩ | ⟨hv,hd,hc,e,_⟩
 ·rw [e];exact h
 ·rw [e]
  have hn:=c27 (d3C hd).1
  exact⟨c8H hc,d0Z hn.2 (d00 (b8F hc) h.2.1),I7 _⟩
theorem c4I (t:A7):(d3A t).1.length<=4096:=by
 unfold d3A
 split
 ·split
  ·simp
  ·dsimp only;omega
 ·simp
theorem d7i {l:List o7} (h:d0N l):c6h 4 (d37 l).1:=by
 unfold d37
 have hno:c6h 4 c5F:=⟨by simp,fun x hx=>(by cases hx),a4J⟩
 split
 ·exact hno
 ·split
  ·split
   ·exact⟨by rw [(a9S l).length_eq];exact h.1,fun a ha=>h.2 a ((a9S l).mem_iff.1 ha),a4J⟩
   ·exact hno
  ·exact hno
theorem d8q:c6h 256 ([],(0:Int)):=⟨by simp,fun x hx=>(by cases hx),a4J⟩
end Go.Proofs.YtbipjlehhlkghaaGreatDoor.Am
namespace Go.Proofs.YtbipjlehhlkghaaGreatDoor.Am
open Go
theorem c8I (b:Bool):d4H b b=true:=by cases b <;> rfl
theorem d02 (x:o7):U.beq B5 x x=true:=(U.beq_iff B5 _ rfl x x).2 rfl
theorem b9Y (x:A6):U.beq D3 x x=true:=(U.beq_iff D3 _ rfl x x).2 rfl
theorem a8k {g:o6} (hl:g.1.length<=5000000000000):D4 g g=some true:=by
 unfold D4
 rw [decide_eq_true rfl,Bool.not_true,C6,decide_eq_true rfl,Bool.not_true,C6]
 refine L4.1 ?_
 unfold a2O
 refine E7 g.1 (fun i (_:Unit)=>(((g.1.length:Nat):Int),((i:Nat):Int),g,g)) (fun _ _=>True) (fun i _ hi _=>?_) (fun _ _=>?_) (b0:=()) trivial (by omega)
 ·unfold P6
  dsimp only
  rw [decide_eq_true (by omega:(i:Int) < ((g.1.length:Nat):Int)),E4,decide_eq_true (by omega:(0:Int)<=(i:Int)/\(i:Int) < ((g.1.length:Nat):Int)),C4,C4,show U.beq B5 (List.getD g.1 (Int.toNat (i:Int)) o9) (List.getD g.1 (Int.toNat (i:Int)) o9)=true from d02 _,Bool.not_true,C6,A3,B4,E2 (by omega)]
  exact⟨(),rfl,trivial⟩
 ·unfold P6
  dsimp only
  rw [decide_eq_false (by omega),C6,A3,B8]
theorem d5W {g:o6} (w:wfU A4 g) (z:szU A4 g):b4U g/\g.1.length * 32<=140737488351232:=by
 obtain⟨⟨_,w1⟩,w2⟩:=w
 obtain⟨⟨z1,z2⟩,_⟩:=z
 have z1:g.1.length * 32<=140737488351232:=z1
 exact⟨⟨c1v w2,fun a ha=>c1v (w1 a ha).2.1,fun a ha=>by
  have h:a.1.length<=reachBytes:=(z2 a ha).1
  have hr:reachBytes=140737488351232:=rfl
  omega,by omega⟩,z1⟩
theorem b1x {l:List Int} (z:szU (.sl (.int .i64)) l):l.length<=140737488351232:=by
 have h:l.length * 8<=reachBytes:=z.1
 have hr:reachBytes=140737488351232:=rfl
 omega
theorem c4J (g:o6) (p:Int) (raw:List UInt8):(V3 g p raw).1.1.length<=g.1.length + 256:=by
 rcases b18 g p raw with⟨e,_⟩ | ⟨_,_,hc,e,_⟩ <;> rw [e]
 ·omega
 ·have:=c8H hc;omega
end Go.Proofs.YtbipjlehhlkghaaGreatDoor.Am
