/- Texts laid together: PSendJ, PPlace. No conditions. -/
import Derived.Test.YthadhfbkhldblaaQAL
import Derived.Test.YthadhfbkhldblaaFAll
import Derived.Test.YthadhfbkhldblaaQAK
namespace Go.Proofs.Ythadhfbkhldblaa.Am
open Go
section
variable {α β:Type} {eq:α->α->Bool}
theorem a6L (he:a1O eq) {k:α}:∀ {l:List (α × β)} {i:Nat},X6 eq k l=some i->∃ v,l[i]?=some (k,v)
 | [],_,h=>by cases h
 | p :: l,i,h=>by
  unfold X6 at h
  split at h
  ·rename_i hs
   injection h with h
   subst h
   exact⟨p.2,by rw [(he _ _).1 hs];rfl⟩
  ·obtain⟨j,h1,rfl⟩:=Option.map_eq_some_iff.1 h
   obtain⟨v,hv⟩:=a6L he h1
   exact⟨v,by simpa using hv⟩
theorem b3I (he:a1O eq) {k:α} {d:β} {l:List (α × β)} (h:k ∈ D2 l):(k,M8 eq k d l) ∈ l:=by
 have h1:=(a1P he k l).2 h
 obtain⟨i,hi⟩:=Option.isSome_iff_exists.1 h1
 obtain⟨v,hv⟩:=a6L he hi
 unfold M8
 rw [hi,Option.bind_some,hv]
 exact List.mem_of_getElem? hv
theorem b2h (he:a1O eq) {k:α} {v:β} {l:List (α × β)} (hnd:(D2 l).Nodup):(a0K eq k v l).Perm ((k,v) :: a39 eq k l):=by
 by_cases h:k ∈ D2 l
 ·obtain⟨v0,hv⟩:=L6.1 h
  exact b3G he hnd hv
 ·rw [b3E he h,a6H he h]
  exact List.perm_append_comm (l₁:=l) (l₂:=[(k,v)])
theorem a4U (he:a1O eq) {k:α} {l:List (α × β)} (hnd:(D2 l).Nodup):(D2 (a39 eq k l)).Nodup/\k ∉ D2 (a39 eq k l)/\∀ k' v,k' ≠ k->((k',v) ∈ a39 eq k l ↔ (k',v) ∈ l):=by
 by_cases h:k ∈ D2 l
 ·obtain⟨v0,hv⟩:=L6.1 h
  have hp:=b2d he hnd hv
  have hn:(D2 ((k,v0) :: a39 eq k l)).Nodup:=(a3Y hp).nodup_iff.2 hnd
  rw [a0A,List.nodup_cons] at hn
  refine⟨hn.2,hn.1,fun k' v hne=>?_⟩
  rw [<-hp.mem_iff,List.mem_cons]
  exact⟨.inr,fun h=>h.resolve_left fun e=>hne (by injection e)⟩
 ·rw [a6H he h]
  exact⟨hnd,h,fun _ _ _=>Iff.rfl⟩
theorem a7X {k:α} {v:β} {l:List (α × β)} (h1:(D2 l).Nodup) (h2:k ∉ D2 l):(D2 ((k,v) :: l)).Nodup:=by
 rw [a0A,List.nodup_cons];exact⟨h2,h1⟩
theorem a84 (he:a1O eq) {k:α} {d:β} {l l':List (α × β)} (h1:(D2 l).Nodup) (h2:(D2 l').Nodup) (h:∀ v,(k,v) ∈ l ↔ (k,v) ∈ l'):M8 eq k d l=M8 eq k d l':=by
 by_cases hk:k ∈ D2 l'
 ·obtain⟨v,hv⟩:=L6.1 hk
  rw [a5R he h2 hv,a5R he h1 ((h v).2 hv)]
 ·rw [a2i he hk,a2i he fun hk'=>by
   obtain⟨v,hv⟩:=L6.1 hk'
   exact hk (L6.2 ⟨v,(h v).1 hv⟩)]
end
structure XJ (c:Nat) (l:IxD) (n:Int) (m:List R17):Prop where
 sort:a1i m
 nd:(D2 l).Nodup
 get:∀ k,M8 A8 k [] l=M2 k m
 ne:∀ p ∈ l,p.2 ≠ []
 size:n=((m.length:Nat):Int)
 len:m.length<=c
 nl:∀ r ∈ m,r.1.length<=60
 qs:∀ r ∈ m,0<=r.2.1/\r.2.1 < 18446744073709551616
theorem xj0:XJ 0 [] 0 []:=⟨List.Pairwise.nil,List.nodup_nil,fun _=>rfl,by simp,rfl,Nat.le_refl _,by simp,by simp⟩
theorem XJ.le {c d:Nat} {l:IxD} {n:Int} {m:List R17} (h:XJ c l n m) (hd:c<=d):XJ d l n m:={h with len:=Nat.le_trans h.len hd}
theorem XJ.keys {c:Nat} {l:IxD} {n:Int} {m:List R17} (h:XJ c l n m) (k:List UInt8):k ∈ D2 l ↔ ∃ r ∈ m,r.1=k:=by
 constructor
 ·intro hk
  have h1:=b3I W9 (d:=([]:List PlD)) hk
  have h2:=h.ne _ h1
  rw [h.get] at h2
  obtain⟨p,hp⟩:=List.exists_mem_of_ne_nil _ h2
  exact⟨_,a2v.1 hp,rfl⟩
 ·rintro⟨r,hr,rfl⟩
  refine Classical.byContradiction fun hk=>?_
  have h1:=h.get r.1
  rw [a2i W9 hk] at h1
  have h2:r.2 ∈ M2 r.1 m:=a2v.2 hr
  rw [<-h1] at h2
  cases h2
theorem a85 {α:Type} [BEq α] [LawfulBEq α]:∀ {l m:List α},l.Nodup->(∀ x ∈ l,x ∈ m)->l.length<=m.length
 | [],_,_,_=>Nat.zero_le _
 | a :: l,m,hn,h=>by
  rw [List.nodup_cons] at hn
  have ha:=h a (List.mem_cons_self ..)
  have:=a85 (l:=l) (m:=m.erase a) hn.2 fun x hx=>(List.mem_erase_of_ne fun e=>hn.1 (by rw [<-e];exact hx)).2 (h x (List.mem_cons_of_mem _ hx))
  rw [List.length_erase_of_mem ha] at this
  have:=List.length_pos_of_mem ha
  rw [List.length_cons];omega
theorem XJ.klen {c:Nat} {l:IxD} {n:Int} {m:List R17} (h:XJ c l n m):l.length<=m.length:=by
 have h1:(D2 l).length<=(m.map fun r=>r.1).length:=by
  refine a85 h.nd fun k hk=>?_
  obtain⟨r,hr,rfl⟩:=(h.keys k).1 hk
  exact List.mem_map.2 ⟨r,hr,rfl⟩
 rwa [a4R,List.length_map] at h1
theorem XJ.upd {c c':Nat} {l:IxD} {n n':Int} {m m':List R17} (h:XJ c l n m) {k:List UInt8} {v:List PlD} (hv:M2 k m'=v) (ho:∀ k',k' ≠ k->M2 k' m'=M2 k' m) (hs:a1i m') (hn:n'=((m'.length:Nat):Int)) (hc:m'.length<=c') (hl:∀ r ∈ m',r.1.length<=60) (hq:∀ r ∈ m',0<=r.2.1/\r.2.1 < 18446744073709551616) :
  (v ≠ []->XJ c' (a0K A8 k v l) n' m')/\(v=[]->XJ c' (a39 A8 k (a0K A8 k v l)) n' m'):=by
 obtain⟨d1,d2,d3⟩:=a4U W9 (k:=k) h.nd
 have hp:=b2h W9 (k:=k) (v:=v) h.nd
 have hnS:(D2 (a0K A8 k v l)).Nodup:=(a3Y hp).nodup_iff.2 (a7X d1 d2)
 have oS:∀ k' w,k' ≠ k->((k',w) ∈ a0K A8 k v l ↔ (k',w) ∈ l):=fun k' w hk=>by
  rw [hp.mem_iff,List.mem_cons,<-d3 k' w hk]
  exact⟨fun h=>h.resolve_left fun e=>hk (by injection e),.inr⟩
 constructor
 ·intro hne
  refine⟨hs,hnS,fun k'=>?_,fun p hm=>?_,hn,hc,hl,hq⟩
  ·by_cases hk:k'=k
   ·subst hk
    rw [hv]
    exact a5R W9 hnS (hp.mem_iff.2 (List.mem_cons_self ..))
   ·rw [ho k' hk,<-h.get k']
    exact a84 W9 hnS h.nd fun w=>oS k' w hk
  ·by_cases hk:p.1=k
   ·have:=hp.mem_iff.1 hm
    rcases List.mem_cons.1 this with e | e
    ·rw [e];exact hne
    ·exact(d2 (L6.2 ⟨p.2,by rw [show(k,p.2)=p by rw [<-hk]];exact e⟩)).elim
   ·exact h.ne p ((oS p.1 p.2 hk).1 hm)
 ·intro he
  obtain⟨e1,e2,e3⟩:=a4U W9 (k:=k) hnS
  refine⟨hs,e1,fun k'=>?_,fun p hm=>?_,hn,hc,hl,hq⟩
  ·by_cases hk:k'=k
   ·subst hk
    rw [hv,he,a2i W9 (by rw [<-he];exact e2)]
   ·rw [ho k' hk,<-h.get k']
    exact a84 W9 e1 h.nd fun w=>(e3 k' w hk).trans (oS k' w hk)
  ·by_cases hk:p.1=k
   ·exact(e2 (L6.2 ⟨p.2,by rw [show(k,p.2)=p by rw [<-hk]];exact hm⟩)).elim
   ·exact h.ne p ((oS p.1 p.2 hk).1 ((e3 p.1 p.2 hk).1 hm))
theorem b2i {m:List R17} (hs:a1i m) {x:R17} (hx:¬ b2f m x.1 x.2.1):a1i (a5U m x).1:=by
 unfold a5U
 rw [if_neg hx]
 have lt1:∀ y ∈ m.filter (ltR x.1 x.2.1),ltR x.1 x.2.1 y=true:=fun y hy=>(List.mem_filter.1 hy).2
 have lt2:∀ y ∈ m.filter (fun y=> !ltR x.1 x.2.1 y),ltR y.1 y.2.1 x=true:=fun y hy=>by
  obtain⟨h1,h2⟩:=List.mem_filter.1 hy
  have h2:¬ ltR x.1 x.2.1 y=true:=by simpa using h2
  rw [Y4] at h2 ⊢
  rcases b4k y.1 x.1 with h | h | h
  ·exact(h2 (.inl h)).elim
  ·right
   have:y.2.1 ≠ x.2.1:=fun e=>hx ⟨y,h1,h,e⟩
   have:¬ y.2.1 < x.2.1:=fun e=>h2 (.inr ⟨h,e⟩)
   exact⟨h.symm,by omega⟩
  ·exact .inl h
 unfold a1i
 dsimp only
 rw [List.append_assoc,List.pairwise_append,List.singleton_append,List.pairwise_cons]
 refine⟨hs.filter _,⟨lt2,hs.filter _⟩,fun a ha b hb=>?_⟩
 rcases List.mem_cons.1 hb with rfl | hb
 ·exact lt1 a ha
 ·exact a6I (lt1 a ha) (lt2 b hb)
theorem XJ.add {c:Nat} {l:IxD} {n:Int} {m:List R17} (h:XJ c l n m) (hc:c<=100000) {k:List UInt8} {q id:Int} (hk:k.length<=60) (hq:0<=q/\q < 18446744073709551616):∃ l' n',C8 l n k q id=some (l',n',(a5U m (k,q,id)).2)/\XJ (c + 1) l' n' (a5U m (k,q,id)).1:=by
 have hlen:=h.len
 have hsl:=a0W k m
 have hss:=a0B h.sort k
 unfold C8 b6Y
 rw [h.get k,a7W hss (by omega),Option.bind_some]
 dsimp only
 by_cases hx:b2f m k q
 ·have e1:a2M (M2 k m) q=true:=decide_eq_true (a34.2 hx)
  have e2:a5U m (k,q,id)=(m,false):=if_pos hx
  rw [e1,a2h,e2]
  exact⟨l,n,rfl,h.le (Nat.le_succ c)⟩
 ·have e1:a2M (M2 k m) q=false:=decide_eq_false fun e=>hx (a34.1 e)
  have e2:a5U m (k,q,id)=(m.filter (ltR k q) ++ [(k,q,id)] ++ m.filter (fun y=> !ltR k q y),true):=if_neg hx
  have hcnt:(M2 k m).countP (ltP q)<=(M2 k m).length:=List.countP_le_length
  obtain⟨s1,s2⟩:=b5n h.sort (x:=(k,q,id)) hx
  have hs:=b2i h.sort (x:=(k,q,id)) hx
  have hp:=b2e (ltR k q) m (k,q,id)
  have e3:(a5U m (k,q,id)).2=true:=by rw [e2]
  have e4:(a5U m (k,q,id)).1=m.filter (ltR k q) ++ [(k,q,id)] ++ m.filter (fun y=> !ltR k q y):=by rw [e2]
  rw [e1,a0n,decide_eq_true ⟨by omega,by omega,by omega⟩,a0V,Int.toNat_natCast,e3]
  refine⟨_,_,rfl,(h.upd s1 s2 hs ?_ ?_ ?_ ?_).1 (by simp)⟩
  ·rw [e4,hp.length_eq,h.size,Y3 (by omega) (by omega)];simp
  ·rw [e4,hp.length_eq];simp;omega
  ·rw [e4];intro r hr
   rcases List.mem_cons.1 (hp.mem_iff.1 hr) with rfl | hr
   ·exact hk
   ·exact h.nl r hr
  ·rw [e4];intro r hr
   rcases List.mem_cons.1 (hp.mem_iff.1 hr) with rfl | hr
   ·exact hq
   ·exact h.qs r hr
theorem XJ.rem {c:Nat} {l:IxD} {n:Int} {m:List R17} (h:XJ c l n m) (hc:c<=100000) (k:List UInt8) (q:Int):∃ l' n',B6 l n k q=some (l',n',(a4T m k q).2)/\XJ c l' n' (a4T m k q).1:=by
 have hlen:=h.len
 have hsl:=a0W k m
 have hss:=a0B h.sort k
 unfold B6
 rw [h.get k,a7W hss (by omega),Option.bind_some]
 dsimp only
 by_cases hx:b2f m k q
 ·have e1:a2M (M2 k m) q=true:=decide_eq_true (a34.2 hx)
  obtain⟨s1,s2,s3⟩:=b5o h.sort hx
  have e2:a4T m k q=(m.filter (a6J k q),true):=if_pos hx
  have hsub:∀ r ∈ (a4T m k q).1,r ∈ m:=fun r hr=>by rw [e2] at hr;exact(List.mem_filter.1 hr).1
  have hlen2:(a4T m k q).1.length + 1=m.length:=by
   obtain⟨r,hr,h1,h2⟩:=hx
   obtain⟨i,hi,rfl⟩:=List.getElem_of_mem hr
   rw [e2,<-h1,<-h2]
   dsimp only
   rw [a31 h.sort hi,List.length_append,List.length_take,List.length_drop];omega
  have hs:a1i (a4T m k q).1:=by rw [e2];exact h.sort.filter _
  have e3:(a4T m k q).2=true:=by rw [e2]
  have hu:=h.upd (c':=c) (n':=I9 (n - 1)) s1 s3 hs (by rw [h.size,Y3 (by omega) (by omega)];omega) (by omega) (fun r hr=>h.nl r (hsub r hr)) (fun r hr=>h.qs r (hsub r hr))
  rw [e1,a2h,decide_eq_true ⟨by omega,by omega⟩,a0V,Int.toNat_natCast,e3]
  refine⟨_,_,rfl,?_⟩
  split
  ·rename_i h0
   exact hu.2 (List.length_eq_zero_iff.1 h0)
  ·rename_i h0
   exact hu.1 fun e=>h0 (by rw [e];rfl)
 ·have e1:a2M (M2 k m) q=false:=decide_eq_false fun e=>hx (a34.1 e)
  have e2:a4T m k q=(m,false):=if_neg hx
  rw [e1,a0n,e2]
  exact⟨l,n,rfl,h⟩
def a1j (k:List UInt8) (m:List R17):List Int:=(M2 k m).map (·.2)
theorem XJ.list {c:Nat} {l:IxD} {n:Int} {m:List R17} (h:XJ c l n m) (hc:c<=100000) (k:List UInt8):D3 l n k=some (l,n,a1j k m):=by
 have hlen:=h.len
 have hsl:=a0W k m
 unfold D3 a1j
 rw [h.get k,decide_eq_true (by omega),a0V]
theorem b2j (k:List UInt8) (m:List R17) (r:R17):M2 k (m ++ [r])=M2 k m ++ (if r.1=k then [r.2] else []):=by
 rw [a1Q]
 congr 1
 unfold M2
 by_cases h:r.1=k <;> simp [h]
theorem b3J {m:List R17} (hl:m.length<=1000000) (k:List UInt8):M0 m k=some (a1j k m):=by
 refine a1N.1 ?_
 unfold M0 S6
 refine O0 m (fun i (acc:List Int)=>(k,m,((m.length:Nat):Int),((i:Nat):Int),acc)) (fun i acc=>acc=a1j k (m.take i)) (fun i acc hi hinv=>?_) (fun acc hinv=>?_) (b0:=[]) rfl (by omega)
 ·have hb:acc.length<=i:=by
   have:=a0W k (m.take i)
   rw [hinv];unfold a1j
   rw [List.length_map]
   rw [List.length_take] at this
   omega
  have hs:a1j k (m.take (i + 1))=a1j k (m.take i) ++ (if m[i].1=k then [m[i].2.2] else []):=by
   unfold a1j
   rw [X2 hi,b2j,List.map_append]
   congr 1
   split <;> rfl
  rw [<-hinv] at hs
  simp only [J1,S9 (i:=i) (by omega),B3,N9,A7,C9,H2,decide_eq_true_eq,decide_eq_false_iff_not,Int.toNat_natCast,V6 hi]
  refine⟨fun _=>⟨by omega,fun h1=>⟨⟨by unfold LIM;omega,by unfold LEN;omega⟩,_,rfl,?_⟩,fun h1=>⟨_,rfl,?_⟩⟩,fun h=>by omega⟩
  ·rw [hs,if_pos h1]
  ·rw [hs,if_neg h1,List.append_nil]
 ·subst hinv
  simp only [J1,B3,N9,A7,C9,H2,decide_eq_true_eq,decide_eq_false_iff_not,Int.toNat_natCast]
  exact⟨fun h=>by omega,fun _=>by rw [List.take_length]⟩
def rrR:List PlD->Int->Bool->List Int
 | [],_,_=>[]
 | p :: ps,q,f=>if p.1 < q then rrR ps q f else if f=true then rrR ps q f else if q < p.1 then [] else p.2 :: rrR ps (a1J (q + 1)) (decide (q=18446744073709551615))
theorem a5V (p:PlD) (ps:List PlD) (q:Int) (f:Bool):rrR (p :: ps) q f=if p.1 < q then rrR ps q f else if f=true then rrR ps q f else if q < p.1 then [] else p.2 :: rrR ps (a1J (q + 1)) (decide (q=18446744073709551615)):=rfl
theorem a6M (k:List UInt8) (r:R17) (m:List R17):M2 k (r :: m)=if r.1=k then r.2 :: M2 k m else M2 k m:=by
 unfold M2
 by_cases h:r.1=k <;> simp [h]
theorem b5p {m:List R17} (hl:m.length<=1000000) (k:List UInt8) (q:Int):N7 m k q=some (rrR (M2 k m) q false):=by
 refine a1N.1 ?_
 unfold N7 T4
 refine O0 m (fun i (b:Int × Bool × List Int)=>(k,b.1,b.2.1,m,((m.length:Nat):Int),((i:Nat):Int),b.2.2)) (fun i b=>b.2.2 ++ rrR (M2 k (m.drop i)) b.1 b.2.1=rrR (M2 k m) q false/\b.2.2.length<=i) (fun i b hi hinv=>?_) (fun b hinv=>?_) (b0:=(q,false,[])) ⟨rfl,by simp⟩ (by omega)
 ·obtain⟨q',f,acc⟩:=b
  obtain⟨hv,hb⟩:=hinv
  dsimp only at hv hb
  rw [List.drop_eq_getElem_cons hi,a6M] at hv
  unfold K0
  dsimp only
  rw [B3]
  refine⟨fun _=>?_,fun h=>by have:=of_decide_eq_false h;omega⟩
  rw [N9,Int.toNat_natCast,V6 hi,S9 (i:=i) (by omega)]
  refine⟨decide_eq_true (by omega),?_⟩
  have hkeep:∀ {q':Int} {f:Bool},acc ++ rrR (M2 k (m.drop (i + 1))) q' f=rrR (M2 k m) q false->Ok (some (.inl (k,q',f,m,((m.length:Nat):Int),((i + 1:Nat):Int),acc)):Option ((List UInt8 × Int × Bool × List o3 × Int × Int × List Int) ⊕ (List Int))) (Nxt (fun x=>x=rrR (M2 k m) q false) fun z=>∃ b':Int × Bool × List Int,z=(k,b'.1,b'.2.1,m,((m.length:Nat):Int),((i + 1:Nat):Int),b'.2.2)/\b'.2.2 ++ rrR (M2 k (m.drop (i + 1))) b'.1 b'.2.1=rrR (M2 k m) q false/\b'.2.2.length<=i + 1):=fun {q' f} h=>by
   rw [A7,C9]
   exact⟨(q',f,acc),rfl,h,by dsimp only;omega⟩
  rw [B3]
  refine⟨fun h1=>?_,fun h1=>?_⟩
  ·have h1:¬ m[i].1=k:=by simpa using h1
   rw [if_neg h1] at hv
   exact hkeep hv
  have h1:m[i].1=k:=by simpa using h1
  rw [if_pos h1] at hv
  rw [a5V] at hv
  rw [B3]
  refine⟨fun h2=>?_,fun h2=>?_⟩
  ·rw [if_pos (of_decide_eq_true h2)] at hv
   exact hkeep hv
  rw [if_neg (of_decide_eq_false h2)] at hv
  rw [B3]
  refine⟨fun h3=>?_,fun h3=>?_⟩
  ·rw [if_pos h3] at hv
   exact hkeep hv
  rw [if_neg (by rw [h3];decide)] at hv
  rw [B3]
  refine⟨fun h4=>?_,fun h4=>?_⟩
  ·rw [if_pos (of_decide_eq_true h4),List.append_nil] at hv
   rw [A7,H2]
   exact hv
  ·rw [if_neg (of_decide_eq_false h4)] at hv
   rw [N9]
   refine⟨decide_eq_true ⟨by unfold LIM;omega,by unfold LEN;omega⟩,?_⟩
   rw [A7,C9]
   exact⟨(a1J (q' + 1),decide (q'=18446744073709551615),acc ++ [m[i].2.2]),rfl,by dsimp only;rw [List.append_assoc];exact hv,by simp;omega⟩
 ·obtain⟨hv,hb⟩:=hinv
  rw [List.drop_length] at hv
  have hv:b.2.2 ++ []=_:=hv
  rw [List.append_nil] at hv
  unfold K0
  dsimp only
  rw [B3]
  refine⟨fun h=>by have:=of_decide_eq_true h;omega,fun _=>?_⟩
  rw [A7,H2]
  exact hv
theorem b2k:∀ {ps:List PlD},a4l ps->(∀ p ∈ ps,0<=p.1/\p.1 < 18446744073709551616)->∀ {q:Int},0<=q->q < 18446744073709551616->rrR ps q false=a81 (ps.drop (ps.countP (ltP q))) q
 | [],_,_,q,_,_=>rfl
 | p :: ps,hs,hb,q,h0,h1=>by
  unfold a4l at hs
  rw [List.pairwise_cons] at hs
  obtain⟨hs1,hs2⟩:=hs
  have ih:=fun {q'} a b=>b2k (ps:=ps) hs2 (fun p hp=>hb p (List.mem_cons_of_mem _ hp)) (q:=q') a b
  rw [a5V]
  by_cases hlt:p.1 < q
  ·rw [if_pos hlt,List.countP_cons_of_pos (by exact decide_eq_true hlt),List.drop_succ_cons]
   exact ih h0 h1
  ·have hz:∀ q',q'<=p.1 + 1->ps.countP (ltP q')=0:=fun q' hq=>List.countP_eq_zero.2 fun y hy=>by
    have:=hs1 y hy
    simp [ltP];omega
   rw [if_neg hlt,if_neg (by decide),List.countP_cons_of_neg (by simpa [ltP] using hlt),hz q (by omega),List.drop_zero]
   unfold a81
   by_cases hgt:q < p.1
   ·rw [if_pos hgt,if_neg (by omega)]
   ·have hpq:p.1=q:=by omega
    rw [if_neg hgt,if_pos hpq]
    by_cases hm:q=18446744073709551615
    ·have hps:ps=[]:=by
      cases ps with
      | nil=>rfl
      | cons y ps=>
       have:=hs1 y (List.mem_cons_self ..)
       have:=(hb y (by simp)).2
       omega
     rw [hps];rfl
    ·have hw:a1J (q + 1)=q + 1:=b2c (by omega) (by omega)
     rw [decide_eq_false hm,hw,ih (by omega) (by omega),hz (q + 1) (by omega),List.drop_zero]
theorem XJ.run {c:Nat} {l:IxD} {n:Int} {m:List R17} (h:XJ c l n m) (hc:c<=100000) (k:List UInt8) {q:Int} (hq:0<=q/\q < 18446744073709551616):C1 l n k q=some (l,n,rrR (M2 k m) q false):=by
 have hlen:=h.len
 have hsl:=a0W k m
 have hss:=a0B h.sort k
 have hcnt:(M2 k m).countP (ltP q)<=(M2 k m).length:=List.countP_le_length
 unfold C1
 rw [h.get k,a7W hss (by omega),Option.bind_some]
 dsimp only
 rw [decide_eq_true ⟨by omega,by omega,by omega⟩,a0V,Int.toNat_natCast,b2k hss (fun p hp=>h.qs _ (a2v.1 hp)) hq.1 hq.2]
theorem b2l:∀ (ps:List PlD) (q:Int) (f:Bool),(rrR ps q f).length<=ps.length
 | [],_,_=>Nat.le_refl _
 | p :: ps,q,f=>by
  have:=b2l ps
  rw [a5V]
  split
  ·have:=this q f;simp;omega
  ·split
   ·have:=this q f;simp;omega
   ·split
    ·simp
    ·simp only [List.length_cons];have:=this (a1J (q + 1)) (decide (q=18446744073709551615));omega
theorem a86 {m:List R17} (hs:a1i m) (hl:m.length<=1000000):Ok (F5 m) fun N=>N.Pairwise (fun a b=>Op.bytesLess a b=true)/\(∀ k,k ∈ N ↔ ∃ r ∈ m,r.1=k)/\N.length<=m.length:=by
 unfold F5 R6
 refine O0 m (fun i (acc:List (List UInt8))=>(m,m,((m.length:Nat):Int),((i:Nat):Int),acc)) (fun i acc=>acc.Pairwise (fun a b=>Op.bytesLess a b=true)/\(∀ k,k ∈ acc ↔ ∃ r ∈ m.take i,r.1=k)/\acc.length<=i) (fun i acc hi hinv=>?_) (fun acc hinv=>?_) (b0:=[]) ⟨List.Pairwise.nil,by simp,Nat.le_refl _⟩ (by omega)
 ·obtain⟨h1,h2,h3⟩:=hinv
  have hnew:(∀ r ∈ m.take i,r.1 ≠ m[i].1)->(acc ++ [m[i].1]).Pairwise (fun a b=>Op.bytesLess a b=true)/\(∀ k,k ∈ acc ++ [m[i].1] ↔ ∃ r ∈ m.take (i + 1),r.1=k)/\(acc ++ [m[i].1]).length<=i + 1:=fun hn=>by
   refine⟨?_,fun k=>?_,by simp;exact h3⟩
   ·rw [List.pairwise_append]
    refine⟨h1,by simp,fun a ha b hb=>?_⟩
    rw [List.mem_singleton.1 hb]
    obtain⟨r,hr,rfl⟩:=(h2 a).1 ha
    obtain⟨j,hj,rfl⟩:=List.getElem_of_mem hr
    rw [List.length_take] at hj
    have hne:=hn _ hr
    rw [List.getElem_take] at hne ⊢
    have:=List.pairwise_iff_getElem.1 hs j i (by omega) hi (by omega)
    rcases Y4.1 this with h | h
    ·exact h
    ·exact(hne h.1).elim
   ·rw [List.mem_append,h2 k,X2 hi]
    constructor
    ·rintro(⟨r,hr,e⟩ | h)
     ·exact⟨r,List.mem_append_left _ hr,e⟩
     ·exact⟨m[i],List.mem_append_right _ (List.mem_singleton.2 rfl),(List.mem_singleton.1 h).symm⟩
    ·rintro⟨r,hr,rfl⟩
     rcases List.mem_append.1 hr with hr | hr
     ·exact .inl ⟨r,hr,rfl⟩
     ·right;rw [List.mem_singleton.1 hr];simp
  unfold I1
  dsimp only
  rw [B3]
  refine⟨fun _=>?_,fun h=>by have:=of_decide_eq_false h;omega⟩
  rw [N9,Int.toNat_natCast,V6 hi,S9 (i:=i) (by omega)]
  refine⟨decide_eq_true (by omega),?_⟩
  have happ:(∀ r ∈ m.take i,r.1 ≠ m[i].1)->Ok (chk (decide ((acc.length + 1) * 16<=LIM/\acc.length + 1<=LEN)) (some (.inl (m,m,((m.length:Nat):Int),((i + 1:Nat):Int),acc ++ [m[i].1]))):Option ((List o3 × List o3 × Int × Int × List (List UInt8)) ⊕ (List (List UInt8)))) (Nxt (fun N=>N.Pairwise (fun a b=>Op.bytesLess a b=true)/\(∀ k,k ∈ N ↔ ∃ r ∈ m,r.1=k)/\N.length<=m.length) fun z=>∃ b':List (List UInt8),z=(m,m,((m.length:Nat):Int),((i + 1:Nat):Int),b')/\b'.Pairwise (fun a b=>Op.bytesLess a b=true)/\(∀ k,k ∈ b' ↔ ∃ r ∈ m.take (i + 1),r.1=k)/\b'.length<=i + 1):=fun hn=>by
   rw [N9]
   refine⟨decide_eq_true ⟨by unfold LIM;omega,by unfold LEN;omega⟩,?_⟩
   rw [A7,C9]
   exact⟨_,rfl,hnew hn⟩
  rw [B3]
  refine⟨fun h0=>?_,fun h0=>?_⟩
  ·have h0:=of_decide_eq_true h0
   have:i=0:=by omega
   subst this
   exact happ (by simp)
  ·have h0:=of_decide_eq_false h0
   have hw:I9 ((i:Int) - 1)=((i - 1:Nat):Int):=by rw [Y3] <;> omega
   have hi1:i - 1 < m.length:=by omega
   rw [hw,N9,Int.toNat_natCast,V6 hi1]
   refine⟨decide_eq_true (by omega),?_⟩
   have h0i:0 < i:=by omega
   rw [B3]
   refine⟨fun hne=>?_,fun he=>?_⟩
   ·have hne:¬ m[i - 1].1=m[i].1:=by simpa using hne
    refine happ fun r hr e=>?_
    obtain⟨j,hj,rfl⟩:=List.getElem_of_mem hr
    rw [List.length_take] at hj
    rw [List.getElem_take] at e
    have hji:j ≠ i - 1:=fun h=>hne (by subst h;exact e)
    have a1:=Y4.1 (List.pairwise_iff_getElem.1 hs j (i - 1) (by omega) hi1 (by omega))
    have a2:=Y4.1 (List.pairwise_iff_getElem.1 hs (i - 1) i hi1 hi (by omega))
    have a2:=a2.resolve_right fun h=>hne h.1
    rcases a1 with a1 | a1
    ·have:=a3e a1 a2
     rw [e,T0] at this;cases this
    ·rw [<-a1.1,e,T0] at a2;cases a2
   ·have he:m[i - 1].1=m[i].1:=by simpa using he
    rw [A7,C9]
    refine⟨acc,rfl,h1,fun k=>?_,by omega⟩
    rw [h2 k,X2 hi]
    constructor
    ·rintro⟨r,hr,e⟩;exact⟨r,List.mem_append_left _ hr,e⟩
    ·rintro⟨r,hr,rfl⟩
     rcases List.mem_append.1 hr with hr | hr
     ·exact⟨r,hr,rfl⟩
     ·rw [List.mem_singleton.1 hr]
      exact⟨m[i - 1],List.mem_take_iff_getElem.2 ⟨i - 1,by omega,rfl⟩,he⟩
 ·obtain⟨h1,h2,h3⟩:=hinv
  rw [List.take_length] at h2
  unfold I1
  dsimp only
  rw [B3]
  refine⟨fun h=>by have:=of_decide_eq_true h;omega,fun _=>?_⟩
  rw [A7,H2]
  exact⟨h1,h2,h3⟩
theorem XJ.names {c:Nat} {l:IxD} {n:Int} {m:List R17} (h:XJ c l n m) (hc:c<=100000) {N:List (List UInt8)} (h1:N.Pairwise (fun a b=>Op.bytesLess a b=true)) (h2:∀ k,k ∈ N ↔ ∃ r ∈ m,r.1=k):C7 l n=some (l,n,N):=by
 have hlen:=h.len
 have hkl:=h.klen
 have hN:N.Nodup:=h1.imp fun {a b} hab e=>by rw [e,T0] at hab;cases hab
 have hp:(D2 l).Perm N:=(List.perm_ext_iff_of_nodup h.nd hN).2 fun k=>(h.keys k).trans (h2 k).symm
 have hsort:W4 (D2 l)=N:=a0u a5G a5H a8M (h1.imp fun {a b} hab=>decide_eq_true (List.le_of_lt ((b6H a b).1 hab))) hp
 have hg:a0v (D2 l)=true:=decide_eq_true ⟨h.nd,fun x hx=>by
  obtain⟨r,hr,rfl⟩:=(h.keys x).1 hx
  have:=h.nl r hr
  omega,by rw [a4R];unfold LIM;omega⟩
 unfold C7
 show chk (a0v (D2 l)) (some (l,n,W4 (D2 l)))=_
 rw [hg,a0V,hsort]
end Go.Proofs.Ythadhfbkhldblaa.Am
namespace Go.Proofs.Ythadhfbkhldblaa.Am
open Go
theorem b3K {x n:Int} (hn:1<=n) (hn2:n<=4611686018427387904):Ok (L9 x n) fun r=>0<=r/\r < n/\r=x % n:=by
 have h1:=Int.tmod_eq_emod (a:=x) (b:=n)
 have h2:=Int.emod_nonneg x (show n ≠ 0 by omega)
 have h3:=Int.emod_lt_of_pos x (show 0 < n by omega)
 have h4:((n.natAbs:Nat):Int)=n:=by omega
 simp only [L9,B3,N9,A7,decide_eq_true_eq,decide_eq_false_iff_not,Bool.not_eq_true']
 refine⟨by omega,fun h=>?_,fun h=>?_⟩
 ·rw [Y3]
  ·split at h1 <;> omega
  ·split at h1 <;> omega
  ·split at h1 <;> omega
 ·split at h1 <;> omega
end Go.Proofs.Ythadhfbkhldblaa.Am
