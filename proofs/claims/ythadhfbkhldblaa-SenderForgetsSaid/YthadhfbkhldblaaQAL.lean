/- An index by name and sequence, on plain data: the program's map of sorted lists and the reference's sorted rows. No conditions. -/
import Derived.Test.YthadhfbkhldblaaFAll
import Derived.Test.YthadhfbkhldblaaQAK
namespace Go.Proofs.Ythadhfbkhldblaa.Am
open Go
abbrev R17:=o3
theorem b6H:∀ (x y:List UInt8),Op.bytesLess x y=true ↔ x < y
 | [],[]=>by simp [Op.bytesLess]
 | [],b :: y=>by simp [Op.bytesLess]
 | a :: x,[]=>by simp [Op.bytesLess]
 | a :: x,b :: y=>by
  rw [a5S,List.cons_lt_cons_iff,b6H x y,UInt8.lt_iff_toNat_lt,<-UInt8.toNat_inj]
def ltP (q:Int) (p:PlD):Bool:=decide (p.1 < q)
def a4l (ps:List PlD):Prop:=ps.Pairwise fun a b=>a.1 < b.1
theorem b6Z {ps:List PlD} (h:a4l ps) (q:Int):Pre (ltP q) ps:=h.imp fun hab hb=>decide_eq_true (by have:=of_decide_eq_true hb;omega)
theorem a7V {α:Type} {P:α->Bool} {m:List α} (h:Pre P m) {i:Nat} (hi:i < m.length):P m[i]=true ↔ i < m.countP P:=by
 obtain⟨t1,t2⟩:=a1b h
 constructor
 ·intro hp
  have:=a30 h hi hp
  have h2:=List.Sublist.countP_le (p:=P) (List.take_sublist (i + 1) m)
  omega
 ·intro hlt
  have hm:m[i] ∈ m.take (m.countP P):=by
   rw [List.mem_take_iff_getElem]
   exact⟨i,by omega,rfl⟩
  rw [t1] at hm
  exact(List.mem_filter.1 hm).2
theorem b6I (a b:Int):Ff.F_cmp_Compare_uint64 a b=some (if a < b then -1 else if b < a then 1 else 0):=by
 have hn:∀ x,Ff.F_cmp_isNaN_uint64 x=some false:=fun x=>by unfold Ff.F_cmp_isNaN_uint64;rw [decide_eq_true rfl];rfl
 unfold Ff.F_cmp_Compare_uint64
 rw [hn,hn,Option.bind_some,Option.bind_some,a0n,a0n]
 by_cases h:a < b
 ·rw [if_pos h,decide_eq_true h,a2h]
 ·rw [if_neg h,decide_eq_false h,a0n]
  by_cases k:b < a
  ·rw [if_pos k,decide_eq_true k,a2h]
  ·rw [if_neg k,decide_eq_false k,a0n]
theorem b7Q {x:Nat} (h:x<=9223372036854775807):I9 (a1J (I9 (x:Int)) / 2 ^ 1)=((x / 2:Nat):Int):=by
 rw [Y3 (n:=(x:Int)) (by omega) (by omega),b2c (by omega) (by omega),Y3 (by omega) (by omega)]
 omega
def a2M (ps:List PlD) (q:Int):Bool:=decide (q ∈ D2 ps)
theorem a5T {ps:List PlD} (hs:a4l ps) {q:Int}:a2M ps q=decide ((ps[ps.countP (ltP q)]?).map (·.1)=some q):=by
 unfold a2M
 rw [decide_eq_decide]
 constructor
 ·intro h
  obtain⟨v,hv⟩:=L6.1 h
  obtain⟨j,hj,he⟩:=List.getElem_of_mem hv
  have h1:¬ j < ps.countP (ltP q):=fun h=>by
   have:=(a7V (b6Z hs q) hj).2 h
   rw [he] at this
   have:=of_decide_eq_true this
   dsimp only at this
   omega
  have h2:¬ ps.countP (ltP q) < j:=fun h=>by
   have h3:=List.pairwise_iff_getElem.1 hs _ j (by omega) hj h
   rw [he] at h3
   exact Nat.lt_irrefl _ ((a7V (b6Z hs q) (by omega)).1 (decide_eq_true h3))
  have h3:ps.countP (ltP q)=j:=by omega
  rw [h3,List.getElem?_eq_getElem hj,he];rfl
 ·intro h
  obtain⟨p,h1,h2⟩:=Option.map_eq_some_iff.1 h
  exact L6.2 ⟨p.2,by rw [<-h2];exact List.mem_of_getElem? h1⟩
theorem a7W {ps:List PlD} (hs:a4l ps) (hl:ps.length<=1000000) (q:Int):Ff.F_sender_find ps q=some (((ps.countP (ltP q):Nat):Int),a2M ps q):=by
 have hc:ps.countP (ltP q)<=ps.length:=List.countP_le_length
 refine a1N.1 ?_
 unfold Ff.F_sender_find Ff.F_slices_BinarySearchFunc_sender_place_sender_place_uint64_of_sender_find_1
 rw [B5]
 unfold Ff.F_slices_BinarySearchFunc_sender_place_sender_place_uint64_of_sender_find_1_l2s
 refine a2g (fun n x=>∃ lo hi:Nat,x=(ps,q,((ps.length:Nat):Int),((lo:Nat):Int),((hi:Nat):Int))/\lo<=ps.countP (ltP q)/\ps.countP (ltP q)<=hi/\hi<=ps.length/\n=hi - lo) ?_ (n:=ps.length) ⟨0,ps.length,rfl,Nat.zero_le _,hc,Nat.le_refl _,by omega⟩ (by omega)
 rintro n x ⟨lo,hi,rfl,h1,h2,h3,rfl⟩
 unfold Ff.F_slices_BinarySearchFunc_sender_place_sender_place_uint64_of_sender_find_1_l2
 dsimp only
 rw [B3]
 refine⟨fun hlt=>?_,fun hge=>?_⟩
 ·have hlt:=of_decide_eq_true hlt
  have hm:I9 (a1J (I9 ((lo:Int) + (hi:Int))) / 2 ^ 1)=(((lo + hi) / 2:Nat):Int):=by
   rw [<-b7Q (by omega)];congr 4
  have hml:(lo + hi) / 2 < ps.length:=by omega
  have hi2:=a7V (b6Z hs q) hml
  have hg:List.getD ps ((lo + hi) / 2) Ff.d_sender_place=ps[(lo + hi) / 2]:=V6 hml _
  rw [hm,N9,Int.toNat_natCast,hg]
  refine⟨decide_eq_true (by omega),?_⟩
  unfold Ff.F_sender_find_1
  rw [b6I,Option.bind_some,Option.bind_some,B3]
  unfold ltP at hi2
  rw [decide_eq_true_eq] at hi2
  refine⟨fun h=>?_,fun h=>?_⟩
  ·have h:=of_decide_eq_true h
   have hl:ps[(lo + hi) / 2].1 < q:=by split at h <;> first | assumption | (split at h <;> omega)
   have:=hi2.1 hl
   rw [A7,C9,S9 (by omega)]
   exact⟨_,by omega,_,hi,rfl,by unfold ltP at *;omega,h2,h3,rfl⟩
  ·have h:=of_decide_eq_false h
   have hl:¬ ps[(lo + hi) / 2].1 < q:=fun hl=>by rw [if_pos hl] at h;omega
   have:¬ (lo + hi) / 2 < List.countP (ltP q) ps:=fun k=>hl (hi2.2 k)
   rw [A7,C9]
   exact⟨_,by omega,lo,_,rfl,h1,by omega,by omega,rfl⟩
 ·have hge:=of_decide_eq_false hge
  have hlo:lo=ps.countP (ltP q):=by omega
  rw [P0]
  unfold Ff.F_slices_BinarySearchFunc_sender_place_sender_place_uint64_of_sender_find_1_c1
  rw [B3]
  refine⟨fun hlt=>?_,fun hge2=>?_⟩
  ·have hlt:lo < ps.length:=by have:=of_decide_eq_true hlt;omega
   have hg:List.getD ps lo Ff.d_sender_place=ps[lo]:=V6 hlt _
   rw [N9,Int.toNat_natCast,hg]
   refine⟨decide_eq_true (by omega),?_⟩
   unfold Ff.F_sender_find_1
   rw [b6I,Option.bind_some,Option.bind_some,A7,H2,A7,a5T hs,<-hlo]
   have e:decide ((if ps[lo].1 < q then -1 else if q < ps[lo].1 then 1 else 0:Int)=0)=decide ((ps[lo]?).map (·.1)=some q):=by
    rw [decide_eq_decide,List.getElem?_eq_getElem hlt]
    show _ ↔ some ps[lo].1=some q
    rw [Option.some_inj]
    split
    ·omega
    ·split <;> omega
   rw [e]
  ·have hge2:=of_decide_eq_false hge2
   rw [A7,H2,A7,a5T hs,<-hlo,List.getElem?_eq_none (by omega)]
   rfl
def ltR (k:List UInt8) (q:Int) (r:R17):Bool:=Op.bytesLess r.1 k || (decide (r.1=k) && decide (r.2.1 < q))
theorem Y4 {k:List UInt8} {q:Int} {r:R17}:ltR k q r=true ↔ Op.bytesLess r.1 k=true\/(r.1=k/\r.2.1 < q):=by
 simp [ltR]
def a1i (m:List R17):Prop:=m.Pairwise fun a b=>ltR b.1 b.2.1 a=true
theorem a6I {a b:R17} {k:List UInt8} {q:Int} (h:ltR b.1 b.2.1 a=true) (j:ltR k q b=true):ltR k q a=true:=by
 rw [Y4] at *
 rcases h with h | ⟨h1,h2⟩ <;> rcases j with j | ⟨j1,j2⟩
 ·exact .inl (a3e h j)
 ·exact .inl (by rw [<-j1];exact h)
 ·exact .inl (by rw [h1];exact j)
 ·exact .inr ⟨h1.trans j1,by omega⟩
theorem b6J {m:List R17} (h:a1i m) (k:List UInt8) (q:Int):Pre (ltR k q) m:=h.imp fun hab hb=>a6I hab hb
def b2f (m:List R17) (k:List UInt8) (q:Int):Prop:=∃ r ∈ m,r.1=k/\r.2.1=q
instance (m:List R17) (k:List UInt8) (q:Int):Decidable (b2f m k q):=by unfold b2f;infer_instance
def a5U (m:List R17) (x:R17):List R17 × Bool:=if b2f m x.1 x.2.1 then(m,false) else(m.filter (ltR x.1 x.2.1) ++ [x] ++ m.filter (fun y=> !ltR x.1 x.2.1 y),true)
theorem b5l {m:List R17} (hs:a1i m) (hl:m.length<=1000000) (k:List UInt8) (q id:Int):J9 m k q id=some (a5U m (k,q,id)):=by
 refine a1N.1 ?_
 unfold J9 Q2
 refine O0 m (fun i (j:Nat)=>(m,k,q,id,((j:Nat):Int),m,((m.length:Nat):Int),((i:Nat):Int))) (fun i j=>j=(m.take i).countP (ltR k q)/\∀ r ∈ m.take i,¬ (r.1=k/\r.2.1=q)) (fun i j hi hinv=>?_) (fun j hinv=>?_) (b0:=0) ⟨rfl,by simp⟩ (by omega)
 ·obtain⟨hj,hne⟩:=hinv
  have hstep:¬ (m[i].1=k/\m[i].2.1=q)->Ok (D8 m k q id ((j:Nat):Int) ((i:Nat):Int) m ((m.length:Nat):Int) ((i:Nat):Int) m[i]) (Nxt (fun x=>x=a5U m (k,q,id)) fun z=>∃ b',z=(m,k,q,id,((b':Nat):Int),m,((m.length:Nat):Int),((i + 1:Nat):Int))/\b'=(m.take (i + 1)).countP (ltR k q)/\∀ r ∈ m.take (i + 1),¬ (r.1=k/\r.2.1=q)):=fun hn=>by
   have hne':∀ r ∈ m.take (i + 1),¬ (r.1=k/\r.2.1=q):=by
    rw [X2 hi];intro y hy
    rcases List.mem_append.1 hy with hy | hy
    ·exact hne y hy
    ·rw [List.mem_singleton.1 hy];exact hn
   unfold D8
   rw [S9 (i:=i) (by omega),B3]
   refine⟨fun h=>?_,fun h=>?_⟩
   ·rw [A7,C9]
    exact⟨i + 1,rfl,by rw [a30 (b6J hs k q) hi (Y4.2 (.inl h))],hne'⟩
   ·rw [B3]
    refine⟨fun h1=>?_,fun h1=>?_⟩
    ·have h1:=of_decide_eq_true h1
     rw [B3]
     refine⟨fun h2=>?_,fun h2=>?_⟩
     ·have h2:=of_decide_eq_true h2
      rw [A7,C9]
      exact⟨i + 1,rfl,by rw [a30 (b6J hs k q) hi (Y4.2 (.inr ⟨h1,h2⟩))],hne'⟩
     ·have h2:=of_decide_eq_false h2
      rw [A7,C9]
      exact⟨j,rfl,by rw [a4S hi (by unfold ltR;rw [h,decide_eq_false h2];simp)];exact hj,hne'⟩
    ·rw [A7,C9]
     exact⟨j,rfl,by rw [a4S hi (by unfold ltR;rw [h,h1];rfl)];exact hj,hne'⟩
  unfold H5
  dsimp only
  rw [B3]
  refine⟨fun _=>?_,fun h=>by have:=of_decide_eq_false h;omega⟩
  rw [N9,Int.toNat_natCast,V6 hi]
  refine⟨decide_eq_true (by omega),?_⟩
  rw [B3]
  refine⟨fun h1=>?_,fun h1=>hstep fun h=>by rw [decide_eq_true h.1] at h1;cases h1⟩
  rw [B3]
  refine⟨fun h2=>?_,fun h2=>hstep fun h=>by rw [decide_eq_true h.2] at h2;cases h2⟩
  rw [A7,H2]
  unfold a5U
  rw [if_pos ⟨_,List.getElem_mem hi,of_decide_eq_true h1,of_decide_eq_true h2⟩]
 ·obtain⟨hj,hne⟩:=hinv
  rw [List.take_length] at hj hne
  have hjl:j<=m.length:=by rw [hj];exact List.countP_le_length
  obtain⟨t1,t2⟩:=a1b (b6J hs k q)
  rw [<-hj] at t1 t2
  simp only [H5,L3,B3,N9,A7,P0,H2,decide_eq_true_eq,decide_eq_false_iff_not,Int.toNat_natCast,List.take_length,List.length_append,List.length_take,List.length_drop,List.length_cons,List.length_nil]
  refine⟨fun h=>by omega,fun _=>⟨by omega,⟨by unfold LIM;omega,by unfold LEN;omega⟩,⟨by unfold LIM;omega,by unfold LEN;omega⟩,by omega,⟨by unfold LIM;omega,by unfold LEN;omega⟩,?_⟩⟩
  unfold a5U
  rw [if_neg (fun⟨r,hr,h⟩=>hne r hr h),t1,t2]
def a6J (k:List UInt8) (q:Int) (r:R17):Bool:=decide (¬ (r.1=k/\r.2.1=q))
def a4T (m:List R17) (k:List UInt8) (q:Int):List R17 × Bool:=if b2f m k q then(m.filter (a6J k q),true) else(m,false)
theorem b2g {a b:R17} (h:ltR b.1 b.2.1 a=true):¬ (a.1=b.1/\a.2.1=b.2.1):=fun⟨h1,h2⟩=>by
 rw [Y4] at h
 rcases h with h | ⟨_,h⟩
 ·rw [h1,T0] at h;cases h
 ·omega
theorem a31 {m:List R17} (hs:a1i m) {i:Nat} (hi:i < m.length):m.filter (a6J m[i].1 m[i].2.1)=m.take i ++ m.drop (i + 1):=by
 have e:m=m.take i ++ m[i] :: m.drop (i + 1):=by rw [List.getElem_cons_drop,List.take_append_drop]
 have hs':=hs
 unfold a1i at hs'
 rw [e,List.pairwise_append,List.pairwise_cons] at hs'
 obtain⟨_,⟨h2,_⟩,h3⟩:=hs'
 generalize hx:m[i]=x at *
 conv=>lhs;rw [e]
 rw [List.filter_append,List.filter_cons_of_neg (by simp [a6J]),List.filter_eq_self.2,List.filter_eq_self.2]
 ·intro y hy;exact decide_eq_true fun h=>b2g (h2 y hy) ⟨h.1.symm,h.2.symm⟩
 ·intro y hy;exact decide_eq_true (b2g (h3 y hy x (by simp)))
theorem b5m {m:List R17} (hs:a1i m) (hl:m.length<=1000000) (k:List UInt8) (q:Int):H4 m k q=some (a4T m k q):=by
 refine a1N.1 ?_
 unfold H4 N6
 refine O0 m (fun i (_:Unit)=>(m,k,q,m,((m.length:Nat):Int),((i:Nat):Int))) (fun i _=>∀ r ∈ m.take i,¬ (r.1=k/\r.2.1=q)) (fun i _ hi hne=>?_) (fun _ hne=>?_) (b0:=()) (by simp) (by omega)
 ·have hskip:¬ (m[i].1=k/\m[i].2.1=q)->∀ r ∈ m.take (i + 1),¬ (r.1=k/\r.2.1=q):=fun hn=>by
   rw [X2 hi];intro y hy
   rcases List.mem_append.1 hy with hy | hy
   ·exact hne y hy
   ·rw [List.mem_singleton.1 hy];exact hn
  simp only [F0,E9,S9 (i:=i) (by omega),B3,N9,A7,C9,H2,decide_eq_true_eq,decide_eq_false_iff_not,Int.toNat_natCast,V6 hi,List.take_length,List.length_take,List.length_drop]
  refine⟨fun _=>⟨by omega,fun h1=>⟨fun h2=>⟨by omega,⟨by unfold LIM;omega,by unfold LEN;omega⟩,by omega,⟨by unfold LIM;omega,by unfold LEN;omega⟩,?_⟩,fun h2=>⟨(),trivial,hskip fun h=>h2 h.2⟩⟩,fun h1=>⟨fun h=>(by cases h),fun _=>⟨(),trivial,hskip fun h=>h1 h.1⟩⟩⟩,fun h=>by omega⟩
  unfold a4T
  rw [if_pos ⟨_,List.getElem_mem hi,h1,h2⟩,<-h1,<-h2,a31 hs hi]
 ·rw [List.take_length] at hne
  simp only [F0,B3,N9,A7,H2,decide_eq_true_eq,decide_eq_false_iff_not,Int.toNat_natCast]
  refine⟨fun h=>by omega,fun _=>?_⟩
  unfold a4T
  rw [if_neg (fun⟨r,hr,h⟩=>hne r hr h)]
def M2 (k:List UInt8) (m:List R17):List PlD:=(m.filter fun r=>decide (r.1=k)).map (·.2)
theorem a0W (k:List UInt8) (m:List R17):(M2 k m).length<=m.length:=by
 unfold M2;rw [List.length_map];exact List.length_filter_le ..
theorem a2v {k:List UInt8} {m:List R17} {p:PlD}:p ∈ M2 k m ↔ (k,p) ∈ m:=by
 unfold M2
 rw [List.mem_map]
 constructor
 ·rintro⟨r,h,rfl⟩
  obtain⟨h1,h2⟩:=List.mem_filter.1 h
  rw [<-of_decide_eq_true h2];exact h1
 ·intro h
  exact⟨_,List.mem_filter.2 ⟨h,decide_eq_true rfl⟩,rfl⟩
theorem a0B {m:List R17} (h:a1i m) (k:List UInt8):a4l (M2 k m):=by
 unfold a4l M2
 rw [List.pairwise_map,List.pairwise_filter]
 refine h.imp fun {a b} hab ha hb=>?_
 rw [Y4] at hab
 have ha:=of_decide_eq_true ha
 have hb:=of_decide_eq_true hb
 rcases hab with hab | hab
 ·rw [ha,hb,T0] at hab;cases hab
 ·exact hab.2
theorem a1Q (k:List UInt8) (l m:List R17):M2 k (l ++ m)=M2 k l ++ M2 k m:=by
 unfold M2;rw [List.filter_append,List.map_append]
theorem a34 {m:List R17} {k:List UInt8} {q:Int}:q ∈ D2 (M2 k m) ↔ b2f m k q:=by
 rw [L6]
 constructor
 ·rintro⟨v,h⟩;exact⟨_,a2v.1 h,rfl,rfl⟩
 ·rintro⟨r,h,rfl,rfl⟩;exact⟨r.2.2,a2v.2 h⟩
theorem a1c (k:List UInt8) (m:List R17) (P:R17->Bool) (Q:PlD->Bool) (h:∀ r,r.1=k->P r=Q r.2):M2 k (m.filter P)=(M2 k m).filter Q:=by
 unfold M2
 rw [List.filter_map,List.filter_filter,List.filter_filter]
 congr 1
 refine List.filter_congr fun r _=>?_
 by_cases hk:r.1=k
 ·rw [decide_eq_true hk,h r hk];simp
 ·rw [decide_eq_false hk];simp
theorem a6K (k:List UInt8) (m:List R17) (h:∀ r ∈ m,r.1 ≠ k):M2 k m=[]:=by
 unfold M2
 rw [List.filter_eq_nil_iff.2 fun r hr=>by simpa using h r hr];rfl
theorem a83 (k:List UInt8) (q:Int) (r:R17) (h:r.1=k):ltR k q r=ltP q r.2:=by
 unfold ltR ltP;rw [h,T0];simp
theorem b5n {m:List R17} (hs:a1i m) {x:R17} (hx:¬ b2f m x.1 x.2.1):M2 x.1 (a5U m x).1=(M2 x.1 m).take ((M2 x.1 m).countP (ltP x.2.1)) ++ x.2 :: (M2 x.1 m).drop ((M2 x.1 m).countP (ltP x.2.1))/\∀ k,k ≠ x.1->M2 k (a5U m x).1=M2 k m:=by
 obtain⟨t1,t2⟩:=a1b (b6Z (a0B hs x.1) x.2.1)
 unfold a5U
 rw [if_neg hx,t1,t2]
 refine⟨?_,fun k hk=>?_⟩
 ·dsimp only
  rw [a1Q,a1Q,a1c x.1 m _ (ltP x.2.1) (fun r h=>a83 _ _ r h),a1c x.1 m _ (fun p=> !ltP x.2.1 p) (fun r h=>by rw [a83 _ _ r h])]
  have:M2 x.1 [x]=[x.2]:=by unfold M2;simp
  rw [this];simp
 ·dsimp only
  have h1:M2 k [x]=[]:=a6K k _ fun r hr=>by rw [List.mem_singleton.1 hr];exact hk.symm
  rw [a1Q,a1Q,h1,List.append_nil,<-a1Q,<-(a1b (b6J hs x.1 x.2.1)).1,<-(a1b (b6J hs x.1 x.2.1)).2,List.take_append_drop]
theorem a91 {ps:List PlD} (hs:a4l ps) {i:Nat} (hi:i < ps.length):ps.eraseIdx i=ps.filter (fun p=>decide (p.1 ≠ ps[i].1)):=by
 have e:ps=ps.take i ++ ps[i] :: ps.drop (i + 1):=by rw [List.getElem_cons_drop,List.take_append_drop]
 have hs':=hs
 unfold a4l at hs'
 rw [e,List.pairwise_append,List.pairwise_cons] at hs'
 obtain⟨_,⟨h2,_⟩,h3⟩:=hs'
 rw [List.eraseIdx_eq_take_drop_succ]
 generalize hx:ps[i]=x at *
 conv=>rhs;rw [e]
 rw [List.filter_append,List.filter_cons_of_neg (by simp),List.filter_eq_self.2,List.filter_eq_self.2]
 ·intro y hy;have:=h2 y hy;simp;omega
 ·intro y hy;have:=h3 y hy x (by simp);simp;omega
theorem b5o {m:List R17} (hs:a1i m) {k:List UInt8} {q:Int} (hx:b2f m k q):M2 k (a4T m k q).1=(M2 k m).eraseIdx ((M2 k m).countP (ltP q))/\(M2 k m).countP (ltP q) < (M2 k m).length/\∀ k',k' ≠ k->M2 k' (a4T m k q).1=M2 k' m:=by
 have h1:=a5T (a0B hs k) (q:=q)
 unfold a2M at h1
 rw [decide_eq_true (a34.2 hx)] at h1
 have h1:=of_decide_eq_true h1.symm
 obtain⟨p,h2,h3⟩:=Option.map_eq_some_iff.1 h1
 obtain⟨h4,h5⟩:=List.getElem?_eq_some_iff.1 h2
 unfold a4T
 rw [if_pos hx]
 refine⟨?_,h4,fun k' hk=>?_⟩
 ·rw [a91 (a0B hs k) h4]
  refine a1c k m _ _ fun r hr=>?_
  unfold a6J
  rw [decide_eq_decide,h5,h3]
  simp [hr]
 ·dsimp only
  rw [a1c k' m (a6J k q) (fun _=>true) fun r hr=>decide_eq_true fun h=>hk (by rw [<-hr];exact h.1)]
  exact List.filter_eq_self.2 fun _ _=>rfl
end Go.Proofs.Ythadhfbkhldblaa.Am
