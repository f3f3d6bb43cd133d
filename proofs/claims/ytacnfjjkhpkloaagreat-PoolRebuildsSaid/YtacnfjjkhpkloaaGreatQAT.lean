/- Texts laid together: PSendJ, PHeap. No conditions. -/
import Derived.Test.YtacnfjjkhpkloaaGreatQAS
import Derived.Test.YtacnfjjkhpkloaaGreatQAP
import Derived.Test.YtacnfjjkhpkloaaGreatFAll
namespace Go.Proofs.YtacnfjjkhpkloaaGreat.Am
open Go
section
variable {α β:Type} {eq:α->α->Bool}
theorem b3I (he:a6a eq) {k:α}:∀ {l:List (α × β)} {i:Nat},a1r eq k l=some i->∃ v,l[i]?=some (k,v)
 | [],_,h=>by cases h
 | p :: l,i,h=>by
  unfold a1r at h
  split at h
  ·rename_i hs
   injection h with h
   subst h
   exact⟨p.2,by rw [(he _ _).1 hs];rfl⟩
  ·obtain⟨j,h1,rfl⟩:=Option.map_eq_some_iff.1 h
   obtain⟨v,hv⟩:=b3I he h1
   exact⟨v,by simpa using hv⟩
theorem c2x (he:a6a eq) {k:α} {d:β} {l:List (α × β)} (h:k ∈ D1 l):(k,W4 eq k d l) ∈ l:=by
 have h1:=(a1J he k l).2 h
 obtain⟨i,hi⟩:=Option.isSome_iff_exists.1 h1
 obtain⟨v,hv⟩:=b3I he hi
 unfold W4
 rw [hi,Option.bind_some,hv]
 exact List.mem_of_getElem? hv
theorem c0y (he:a6a eq) {k:α} {v:β} {l:List (α × β)} (hnd:(D1 l).Nodup):(a1V eq k v l).Perm ((k,v) :: a5u eq k l):=by
 by_cases h:k ∈ D1 l
 ·obtain⟨v0,hv⟩:=E8.1 h
  exact b2m he hnd hv
 ·rw [a71 he h,a6b he h]
  exact List.perm_append_comm (l₁:=l) (l₂:=[(k,v)])
theorem b1e (he:a6a eq) {k:α} {l:List (α × β)} (hnd:(D1 l).Nodup):(D1 (a5u eq k l)).Nodup/\k ∉ D1 (a5u eq k l)/\∀ k' v,k' ≠ k->((k',v) ∈ a5u eq k l ↔ (k',v) ∈ l):=by
 by_cases h:k ∈ D1 l
 ·obtain⟨v0,hv⟩:=E8.1 h
  have hp:=a3g he hnd hv
  have hn:(D1 ((k,v0) :: a5u eq k l)).Nodup:=(H5 hp).nodup_iff.2 hnd
  rw [a0R,List.nodup_cons] at hn
  refine⟨hn.2,hn.1,fun k' v hne=>?_⟩
  rw [<-hp.mem_iff,List.mem_cons]
  exact⟨.inr,fun h=>h.resolve_left fun e=>hne (by injection e)⟩
 ·rw [a6b he h]
  exact⟨hnd,h,fun _ _ _=>Iff.rfl⟩
theorem b5j {k:α} {v:β} {l:List (α × β)} (h1:(D1 l).Nodup) (h2:k ∉ D1 l):(D1 ((k,v) :: l)).Nodup:=by
 rw [a0R,List.nodup_cons];exact⟨h2,h1⟩
theorem b6C (he:a6a eq) {k:α} {d:β} {l l':List (α × β)} (h1:(D1 l).Nodup) (h2:(D1 l').Nodup) (h:∀ v,(k,v) ∈ l ↔ (k,v) ∈ l'):W4 eq k d l=W4 eq k d l':=by
 by_cases hk:k ∈ D1 l'
 ·obtain⟨v,hv⟩:=E8.1 hk
  rw [a5q he h2 hv,a5q he h1 ((h v).2 hv)]
 ·rw [a7Z he hk,a7Z he fun hk'=>by
   obtain⟨v,hv⟩:=E8.1 hk'
   exact hk (E8.2 ⟨v,(h v).1 hv⟩)]
end
structure XJ (c:Nat) (l:IxD) (n:Int) (m:List R17):Prop where
 sort:a8v m
 nd:(D1 l).Nodup
 get:∀ k,W4 D3 k [] l=a31 k m
 ne:∀ p ∈ l,p.2 ≠ []
 size:n=((m.length:Nat):Int)
 len:m.length<=c
 nl:∀ r ∈ m,r.1.length<=60
 qs:∀ r ∈ m,0<=r.2.1/\r.2.1 < 18446744073709551616
theorem xj0:XJ 0 [] 0 []:=⟨List.Pairwise.nil,List.nodup_nil,fun _=>rfl,by simp,rfl,Nat.le_refl _,by simp,by simp⟩
theorem XJ.le {c d:Nat} {l:IxD} {n:Int} {m:List R17} (h:XJ c l n m) (hd:c<=d):XJ d l n m:={h with len:=Nat.le_trans h.len hd}
theorem XJ.keys {c:Nat} {l:IxD} {n:Int} {m:List R17} (h:XJ c l n m) (k:List UInt8):k ∈ D1 l ↔ ∃ r ∈ m,r.1=k:=by
 constructor
 ·intro hk
  have h1:=c2x a0K (d:=([]:List PlD)) hk
  have h2:=h.ne _ h1
  rw [h.get] at h2
  obtain⟨p,hp⟩:=List.exists_mem_of_ne_nil _ h2
  exact⟨_,b2v.1 hp,rfl⟩
 ·rintro⟨r,hr,rfl⟩
  refine Classical.byContradiction fun hk=>?_
  have h1:=h.get r.1
  rw [a7Z a0K hk] at h1
  have h2:r.2 ∈ a31 r.1 m:=b2v.2 hr
  rw [<-h1] at h2
  cases h2
theorem XJ.upd {c c':Nat} {l:IxD} {n n':Int} {m m':List R17} (h:XJ c l n m) {k:List UInt8} {v:List PlD} (hv:a31 k m'=v) (ho:∀ k',k' ≠ k->a31 k' m'=a31 k' m) (hs:a8v m') (hn:n'=((m'.length:Nat):Int)) (hc:m'.length<=c') (hl:∀ r ∈ m',r.1.length<=60) (hq:∀ r ∈ m',0<=r.2.1/\r.2.1 < 18446744073709551616) :
  (v ≠ []->XJ c' (a1V D3 k v l) n' m')/\(v=[]->XJ c' (a5u D3 k (a1V D3 k v l)) n' m'):=by
 obtain⟨d1,d2,d3⟩:=b1e a0K (k:=k) h.nd
 have hp:=c0y a0K (k:=k) (v:=v) h.nd
 have hnS:(D1 (a1V D3 k v l)).Nodup:=(H5 hp).nodup_iff.2 (b5j d1 d2)
 have oS:∀ k' w,k' ≠ k->((k',w) ∈ a1V D3 k v l ↔ (k',w) ∈ l):=fun k' w hk=>by
  rw [hp.mem_iff,List.mem_cons,<-d3 k' w hk]
  exact⟨fun h=>h.resolve_left fun e=>hk (by injection e),.inr⟩
 constructor
 ·intro hne
  refine⟨hs,hnS,fun k'=>?_,fun p hm=>?_,hn,hc,hl,hq⟩
  ·by_cases hk:k'=k
   ·subst hk
    rw [hv]
    exact a5q a0K hnS (hp.mem_iff.2 (List.mem_cons_self ..))
   ·rw [ho k' hk,<-h.get k']
    exact b6C a0K hnS h.nd fun w=>oS k' w hk
  ·by_cases hk:p.1=k
   ·have:=hp.mem_iff.1 hm
    rcases List.mem_cons.1 this with e | e
    ·rw [e];exact hne
    ·exact(d2 (E8.2 ⟨p.2,by rw [show(k,p.2)=p by rw [<-hk]];exact e⟩)).elim
   ·exact h.ne p ((oS p.1 p.2 hk).1 hm)
 ·intro he
  obtain⟨e1,e2,e3⟩:=b1e a0K (k:=k) hnS
  refine⟨hs,e1,fun k'=>?_,fun p hm=>?_,hn,hc,hl,hq⟩
  ·by_cases hk:k'=k
   ·subst hk
    rw [hv,he,a7Z a0K (by rw [<-he];exact e2)]
   ·rw [ho k' hk,<-h.get k']
    exact b6C a0K e1 h.nd fun w=>(e3 k' w hk).trans (oS k' w hk)
  ·by_cases hk:p.1=k
   ·exact(e2 (E8.2 ⟨p.2,by rw [show(k,p.2)=p by rw [<-hk]];exact hm⟩)).elim
   ·exact h.ne p ((oS p.1 p.2 hk).1 ((e3 p.1 p.2 hk).1 hm))
theorem c0z {m:List R17} (hs:a8v m) {x:R17} (hx:¬ b5g m x.1 x.2.1):a8v (b7J m x).1:=by
 unfold b7J
 rw [if_neg hx]
 have lt1:∀ y ∈ m.filter (ltR x.1 x.2.1),ltR x.1 x.2.1 y=true:=fun y hy=>(List.mem_filter.1 hy).2
 have lt2:∀ y ∈ m.filter (fun y=> !ltR x.1 x.2.1 y),ltR y.1 y.2.1 x=true:=fun y hy=>by
  obtain⟨h1,h2⟩:=List.mem_filter.1 hy
  have h2:¬ ltR x.1 x.2.1 y=true:=by simpa using h2
  rw [b2u] at h2 ⊢
  rcases c3i y.1 x.1 with h | h | h
  ·exact(h2 (.inl h)).elim
  ·right
   have:y.2.1 ≠ x.2.1:=fun e=>hx ⟨y,h1,h,e⟩
   have:¬ y.2.1 < x.2.1:=fun e=>h2 (.inr ⟨h,e⟩)
   exact⟨h.symm,by omega⟩
  ·exact .inl h
 unfold a8v
 dsimp only
 rw [List.append_assoc,List.pairwise_append,List.singleton_append,List.pairwise_cons]
 refine⟨hs.filter _,⟨lt2,hs.filter _⟩,fun a ha b hb=>?_⟩
 rcases List.mem_cons.1 hb with rfl | hb
 ·exact lt1 a ha
 ·exact b3H (lt1 a ha) (lt2 b hb)
theorem XJ.add {c:Nat} {l:IxD} {n:Int} {m:List R17} (h:XJ c l n m) (hc:c<=100000) {k:List UInt8} {q id:Int} (hk:k.length<=60) (hq:0<=q/\q < 18446744073709551616):∃ l' n',a0z l n k q id=some (l',n',(b7J m (k,q,id)).2)/\XJ (c + 1) l' n' (b7J m (k,q,id)).1:=by
 have hlen:=h.len
 have hsl:=b5i k m
 have hss:=a6t h.sort k
 unfold a0z c7I
 rw [h.get k,c0w hss (by omega),Option.bind_some]
 dsimp only
 by_cases hx:b5g m k q
 ·have e1:a8R (a31 k m) q=true:=decide_eq_true (b0m.2 hx)
  have e2:b7J m (k,q,id)=(m,false):=if_pos hx
  rw [e1,U3,e2]
  exact⟨l,n,rfl,h.le (Nat.le_succ c)⟩
 ·have e1:a8R (a31 k m) q=false:=decide_eq_false fun e=>hx (b0m.1 e)
  have e2:b7J m (k,q,id)=(m.filter (ltR k q) ++ [(k,q,id)] ++ m.filter (fun y=> !ltR k q y),true):=if_neg hx
  have hcnt:(a31 k m).countP (ltP q)<=(a31 k m).length:=List.countP_le_length
  obtain⟨s1,s2⟩:=c4L h.sort (x:=(k,q,id)) hx
  have hs:=c0z h.sort (x:=(k,q,id)) hx
  have hp:=a73 (ltR k q) m (k,q,id)
  have e3:(b7J m (k,q,id)).2=true:=by rw [e2]
  have e4:(b7J m (k,q,id)).1=m.filter (ltR k q) ++ [(k,q,id)] ++ m.filter (fun y=> !ltR k q y):=by rw [e2]
  rw [e1,L0,decide_eq_true ⟨by omega,by omega,by omega⟩,M5,Int.toNat_natCast,e3]
  refine⟨_,_,rfl,(h.upd s1 s2 hs ?_ ?_ ?_ ?_).1 (by simp)⟩
  ·rw [e4,hp.length_eq,h.size,E4 (by omega) (by omega)];simp
  ·rw [e4,hp.length_eq];simp;omega
  ·rw [e4];intro r hr
   rcases List.mem_cons.1 (hp.mem_iff.1 hr) with rfl | hr
   ·exact hk
   ·exact h.nl r hr
  ·rw [e4];intro r hr
   rcases List.mem_cons.1 (hp.mem_iff.1 hr) with rfl | hr
   ·exact hq
   ·exact h.qs r hr
theorem XJ.rem {c:Nat} {l:IxD} {n:Int} {m:List R17} (h:XJ c l n m) (hc:c<=100000) (k:List UInt8) (q:Int):∃ l' n',H9 l n k q=some (l',n',(b7K m k q).2)/\XJ c l' n' (b7K m k q).1:=by
 have hlen:=h.len
 have hsl:=b5i k m
 have hss:=a6t h.sort k
 unfold H9
 rw [h.get k,c0w hss (by omega),Option.bind_some]
 dsimp only
 by_cases hx:b5g m k q
 ·have e1:a8R (a31 k m) q=true:=decide_eq_true (b0m.2 hx)
  obtain⟨s1,s2,s3⟩:=c4M h.sort hx
  have e2:b7K m k q=(m.filter (b0C k q),true):=if_pos hx
  have hsub:∀ r ∈ (b7K m k q).1,r ∈ m:=fun r hr=>by rw [e2] at hr;exact(List.mem_filter.1 hr).1
  have hlen2:(b7K m k q).1.length + 1=m.length:=by
   obtain⟨r,hr,h1,h2⟩:=hx
   obtain⟨i,hi,rfl⟩:=List.getElem_of_mem hr
   rw [e2,<-h1,<-h2]
   dsimp only
   rw [b5h h.sort hi,List.length_append,List.length_take,List.length_drop];omega
  have hs:a8v (b7K m k q).1:=by rw [e2];exact h.sort.filter _
  have e3:(b7K m k q).2=true:=by rw [e2]
  have hu:=h.upd (c':=c) (n':=C6 (n - 1)) s1 s3 hs (by rw [h.size,E4 (by omega) (by omega)];omega) (by omega) (fun r hr=>h.nl r (hsub r hr)) (fun r hr=>h.qs r (hsub r hr))
  rw [e1,U3,decide_eq_true ⟨by omega,by omega⟩,M5,Int.toNat_natCast,e3]
  refine⟨_,_,rfl,?_⟩
  split
  ·rename_i h0
   exact hu.2 (List.length_eq_zero_iff.1 h0)
  ·rename_i h0
   exact hu.1 fun e=>h0 (by rw [e];rfl)
 ·have e1:a8R (a31 k m) q=false:=decide_eq_false fun e=>hx (b0m.1 e)
  have e2:b7K m k q=(m,false):=if_neg hx
  rw [e1,L0,e2]
  exact⟨l,n,rfl,h⟩
def c2y (k:List UInt8) (m:List R17):List Int:=(a31 k m).map (·.2)
theorem XJ.list {c:Nat} {l:IxD} {n:Int} {m:List R17} (h:XJ c l n m) (hc:c<=100000) (k:List UInt8):S1 l n k=some (l,n,c2y k m):=by
 have hlen:=h.len
 have hsl:=b5i k m
 unfold S1 c2y
 rw [h.get k,decide_eq_true (by omega),M5]
end Go.Proofs.YtacnfjjkhpkloaaGreat.Am
namespace Go.Proofs.YtacnfjjkhpkloaaGreat.Am
open Go
theorem a8b (l:List o9) (k:Nat):List.getD l k C3=nth l k:=rfl
theorem b3L (a b:o9):a18 a b=some (decide (Bef a b)):=by
 refine a1q.1 ?_
 unfold a18
 simp only [D2,B9,Bool.not_eq_true',Bool.not_eq_false',decide_eq_true_eq,decide_eq_false_iff_not]
 refine⟨fun h=>?_,fun h=>⟨fun k=>?_,fun k=>?_⟩⟩ <;> exact decide_eq_decide.2 (by unfold Bef;omega)
theorem b5k {l:List o9} {p:List (Int × Int)} {i j:Nat} (hi:i < l.length) (hj:j < l.length):U4 l p (i:Int) (j:Int)=some (sw l i j,pSw (sw l i j) p i j):=by
 refine a1q.1 ?_
 unfold U4
 simp only [F8,B9,Int.toNat_natCast,decide_eq_true_eq,List.length_set]
 refine⟨by omega,hj,by omega,hi,by omega,hi,by omega,hj,by omega,hi,by omega,hj,rfl⟩
theorem c82 {j:Nat} (h0:0 < j) (h:j<=1000000):C6 (Int.tdiv (C6 ((j:Int) - 1)) 2)=(((j - 1) / 2:Nat):Int):=by
 have h1:C6 ((j:Int) - 1)=((j - 1:Nat):Int):=by rw [E4] <;> omega
 rw [h1,Int.tdiv_eq_ediv_of_nonneg (by omega),E4] <;> omega
theorem c7j {l:List o9} {p:List (Int × Int)} {i:Nat} (hi:i < l.length) (hl:l.length<=1000000) (hd:Ids l) (hp:Pl l p) (h:AH l i):Ok (a1l l p (i:Int)) fun r=>r.1.Perm l/\Pl r.1 r.2/\DH r.1 i:=by
 unfold a1l a4f
 refine O3 (fun n v=>∃ l0 p0,v=((n:Int),l0,p0)/\n < l.length/\l0.Perm l/\Pl l0 p0/\((n=i/\AH l0 i)\/UH l0 n)) ?_ (n:=i) ⟨l,p,rfl,hi,List.Perm.refl _,hp,.inl ⟨rfl,h⟩⟩ (by omega)
 rintro n v ⟨l0,p0,rfl,hn,hperm,hpl,hah⟩
 have hlen:=hperm.length_eq
 have hid:=hd.perm hperm
 have fin:(n=0\/b2G l0 n)->DH l0 i:=fun hs=>by
  rcases hah with⟨rfl,h1⟩ | h1
  ·exact c2z h1 hs
  ·exact(c2A h1 hs).dh (by omega)
 unfold a2H
 dsimp only
 rw [D2]
 refine⟨fun h0=>?_,fun h0=>?_⟩
 ·have h0:0 < n:=by have:=of_decide_eq_true h0;omega
  have hpn:(n - 1) / 2 < l0.length:=by omega
  rw [c82 h0 (by omega),Int.toNat_natCast,Int.toNat_natCast,a8b,a8b,b3L,Option.bind_some,b5k (show n < l0.length by omega) hpn,Option.bind_some]
  simp only [F8,D2,B9,decide_eq_true_eq,decide_eq_false_iff_not,C9,D4]
  refine⟨by omega,by omega,by omega,hpn,fun hb=>?_,fun hb=>⟨hperm,hpl,fin (.inr hb)⟩⟩
  have ha:AH l0 n:=by
   rcases hah with⟨rfl,h1⟩ | h1
   ·exact h1
   ·exact h1.ah
  exact⟨(n - 1) / 2,by omega,_,_,rfl,by omega,(b2x (by omega) hpn).trans hperm,hpl.swap hid (by omega) hpn,.inr (c4N h0 (by omega) rfl ha hb)⟩
 ·have h0:n=0:=by have:=of_decide_eq_false h0;omega
  rw [B9,D4]
  exact⟨hperm,hpl,fin (.inl h0)⟩
def c83 (l:List o9) (i b:Nat):Prop:=(b=i\/(0 < b/\b < l.length/\(b - 1) / 2=i/\Bef (nth l b) (nth l i)))/\∀ c,0 < c->c < l.length->(c - 1) / 2=i->¬ Bef (nth l c) (nth l b)
theorem d0s (a b:Int) {k:Nat} (hk:k < 2):O5 (Vector.push (Vector.push #v[] a) b) k (0:Int)=if k=0 then a else b:=by
 have:k=0\/k=1:=by omega
 rcases this with rfl | rfl <;> rfl
theorem b7N {l:List o9} {p:List (Int × Int)} {i:Nat} {q:(Int × List o9 × List (Int × Int)) ⊕ (List o9 × List (Int × Int))->Prop} (hi:i < l.length) (hl:l.length<=1000000)
  (hq:∀ b,c83 l i b->Ok (Z6 (i:Int) (b:Int) l p) q):Ok (a1g (i:Int) (i:Int) ((2 * i + 1:Nat):Int) ((2 * i + 2:Nat):Int) 0 l p) q:=by
 unfold a1g
 refine O3 (fun n v=>∃ k b:Nat,k + n=2/\v=((i:Int),(b:Int),((2 * i + 1:Nat):Int),((2 * i + 2:Nat):Int),(k:Int),l,p)/\(b=i\/(0 < b/\b < l.length/\(b - 1) / 2=i/\Bef (nth l b) (nth l i)))/\∀ k',k' < k->2 * i + 1 + k' < l.length->¬ Bef (nth l (2 * i + 1 + k')) (nth l b)) ?_ (n:=2) ⟨0,i,rfl,rfl,.inl rfl,fun _ h=>by omega⟩ (by omega)
 rintro n v ⟨k,b,hk,rfl,hb,hs⟩
 have hbl:b < l.length:=by rcases hb with rfl | ⟨_,h,_⟩ <;> omega
 unfold a1C
 dsimp only
 rw [D2]
 refine⟨fun h2=>?_,fun h2=>?_⟩
 ·have h2:k < 2:=by have:=of_decide_eq_true h2;omega
  have hv:O5 (Vector.push (Vector.push #v[] ((2 * i + 1:Nat):Int)) ((2 * i + 2:Nat):Int)) k (0:Int)=((2 * i + 1 + k:Nat):Int):=by
   rw [d0s _ _ h2]
   split <;> omega
  rw [Int.toNat_natCast,hv,Int.toNat_natCast,Int.toNat_natCast,a8b,a8b,b3L,Option.bind_some,H2 (i:=k) (by omega)]
  simp only [F8,D2,B9,decide_eq_true_eq,decide_eq_false_iff_not,C9]
  refine⟨by omega,fun h3=>⟨by omega,by omega,by omega,hbl,fun hbe=>?_,fun hbe=>?_⟩,fun h3=>?_⟩
  ·refine⟨1 - k,by omega,k + 1,2 * i + 1 + k,by omega,rfl,.inr ⟨by omega,by omega,by omega,?_⟩,fun k' hk' hc=>?_⟩
   ·rcases hb with rfl | ⟨_,_,_,h5⟩
    ·exact hbe
    ·exact hbe.trans h5
   ·by_cases e:k'=k
    ·rw [e];exact Bef.irrefl _
    ·exact fun hx=>hs k' (by omega) hc (hx.trans hbe)
  ·refine⟨1 - k,by omega,k + 1,b,by omega,rfl,hb,fun k' hk' hc=>?_⟩
   by_cases e:k'=k
   ·rw [e];exact hbe
   ·exact hs k' (by omega) hc
  ·refine⟨1 - k,by omega,k + 1,b,by omega,rfl,hb,fun k' hk' hc=>?_⟩
   by_cases e:k'=k
   ·subst e;omega
   ·exact hs k' (by omega) hc
 ·have h2:k=2:=by have:=of_decide_eq_false h2;omega
  subst h2
  rw [F0]
  refine(hq b ⟨hb,fun c c0 cl cp=>?_⟩).mono fun r hr=>hr
  have:c=2 * i + 1 + (c - (2 * i + 1)):=by omega
  have h5:=hs (c - (2 * i + 1)) (by omega) (by omega)
  rw [<-this] at h5
  exact h5
theorem c4O {l:List o9} {p:List (Int × Int)} {i:Nat} (hi:i < l.length) (hl:l.length<=1000000) (hd:Ids l) (hp:Pl l p) (h:DH l i):Ok (a1v l p (i:Int)) fun r=>r.1.Perm l/\Pl r.1 r.2/\a7p r.1:=by
 unfold a1v a3t
 refine O3 (fun n v=>∃ (j:Nat) (l0:List o9) (p0:List (Int × Int)),v=((j:Int),l0,p0)/\j < l.length/\j + n=l.length/\l0.Perm l/\Pl l0 p0/\DH l0 j) ?_ (n:=l.length - i) ⟨i,l,p,rfl,hi,by omega,List.Perm.refl _,hp,h⟩ (by omega)
 rintro n v ⟨j,l0,p0,rfl,hj,hn,hperm,hpl,hdh⟩
 have hlen:=hperm.length_eq
 have hid:=hd.perm hperm
 unfold a1D
 dsimp only
 have w1:C6 (C6 (2 * (j:Int)) + 1)=((2 * j + 1:Nat):Int):=by
  have:C6 (2 * (j:Int))=2 * (j:Int):=E4 (by omega) (by omega)
  rw [this,E4] <;> omega
 have w2:C6 (C6 (2 * (j:Int)) + 2)=((2 * j + 2:Nat):Int):=by
  have:C6 (2 * (j:Int))=2 * (j:Int):=E4 (by omega) (by omega)
  rw [this,E4] <;> omega
 rw [w1,w2]
 refine b7N (by omega) (by omega) fun b hb=>?_
 obtain⟨hb1,hb2⟩:=hb
 unfold Z6
 rw [D2]
 refine⟨fun e=>?_,fun e=>?_⟩
 ·have e:b=j:=by have:=of_decide_eq_true e;omega
  subst e
  rw [B9,D4]
  exact⟨hperm,hpl,b3J hdh hb2⟩
 ·have e:b ≠ j:=by have:=of_decide_eq_false e;omega
  rcases hb1 with rfl | ⟨b0,bl,bp,bb⟩
  ·exact(e rfl).elim
  rw [b5k (show j < l0.length by omega) bl,Option.bind_some,B9,C9]
  exact⟨l.length - b,by omega,b,_,_,rfl,by omega,by omega,(b2x (by omega) bl).trans hperm,hpl.swap hid (by omega) bl,c0D bl b0 bp hdh bb hb2⟩
theorem c4P {l:List o9} {p:List (Int × Int)} {i:Nat} (hi:i < l.length) (hl:l.length<=1000000) (hd:Ids l) (hp:Pl l p) (h:a7p l):Ok (a1w l p (i:Int)) fun r=>(nth l i :: r.1).Perm l/\Pl r.1 r.2/\a7p r.1:=by
 obtain⟨n,hn⟩:∃ n,l.length=n + 1:=⟨l.length - 1,by omega⟩
 have hnl:n < l.length:=by omega
 have w:C6 (((l.length:Nat):Int) - 1)=(n:Int):=by rw [E4] <;> omega
 have hsl:=a8a l i n
 have hspl:=hp.swap hd hi hnl
 have hsid:=hd.perm (b2x hi hnl)
 have hpop:=hspl.pop hsid (show(sw l i n).length=n + 1 by omega)
 have hcp:=c2B hn (show i<=n by omega)
 have htl:((sw l i n).take n).length=n:=by rw [List.length_take];omega
 have htid:Ids ((sw l i n).take n):=by
  have:=hd.perm hcp
  unfold Ids at this
  rw [List.map_cons,List.nodup_cons] at this
  exact this.2
 unfold a1w
 rw [w,b5k hi hnl,Option.bind_some]
 simp only [F8,D2,Int.toNat_natCast,decide_eq_true_eq,decide_eq_false_iff_not,a8b,C2]
 refine⟨by omega,by omega,by omega,fun h1=>?_,fun h1=>?_⟩
 ·refine(c7j (show i < ((sw l i n).take n).length by omega) (by omega) htid hpop (h.cut hn (by omega))).mono fun r hr=>?_
  obtain⟨a1,a2,a3⟩:=hr
  have hrl:=a1.length_eq
  refine(c4O (show i < r.1.length by omega) (by omega) (htid.perm a1) a2 a3).mono fun r2 hr2=>?_
  obtain⟨b1,b2,b3⟩:=hr2
  rw [B9]
  exact⟨((b1.trans a1).cons _).trans hcp,b2,b3⟩
 ·have e:i=n:=by omega
  subst e
  rw [B9]
  refine⟨hcp,hpop,?_⟩
  have e2:sw l i i=l:=by
   unfold sw
   rw [List.set_set]
   refine List.ext_getElem (by rw [List.length_set]) fun m h1 h2=>?_
   rw [List.getElem_set]
   split
   ·rename_i e;subst e;exact a78 hi
   ·rfl
  rw [e2]
  exact h.take i
def c5d (x y:o9):Bool:=decide (Bef y x)
def c0E (m:List o9):Prop:=m.Pairwise Bef
def c7k (m:List o9) (x:o9):List o9:=m.filter (c5d x) ++ [x] ++ m.filter (fun y=> !c5d x y)
theorem c4Q {m:List o9} (hs:Ids m) {i:Nat} (hi:i < m.length):m.filter (fun w=>decide (w.1 ≠ m[i].1))=m.take i ++ m.drop (i + 1):=by
 have e:m=m.take i ++ m[i] :: m.drop (i + 1):=by rw [List.getElem_cons_drop,List.take_append_drop]
 have hs':=hs
 unfold Ids at hs'
 rw [e,List.map_append,List.map_cons,List.nodup_append,List.nodup_cons] at hs'
 obtain⟨_,⟨h2,_⟩,h3⟩:=hs'
 generalize hx:m[i]=x at *
 conv=>lhs;rw [e]
 rw [List.filter_append,List.filter_cons_of_neg (by simp),List.filter_eq_self.2,List.filter_eq_self.2]
 ·intro y hy
  exact decide_eq_true fun e=>h2 (by rw [<-e];exact List.mem_map.2 ⟨y,hy,rfl⟩)
 ·intro y hy
  exact decide_eq_true fun e=>h3 y.1 (List.mem_map.2 ⟨y,hy,rfl⟩) x.1 (by simp) e
def c84 (m:List o9) (id:Int):List o9:=m.filter (fun w=>decide (w.1 ≠ id))
end Go.Proofs.YtacnfjjkhpkloaaGreat.Am
