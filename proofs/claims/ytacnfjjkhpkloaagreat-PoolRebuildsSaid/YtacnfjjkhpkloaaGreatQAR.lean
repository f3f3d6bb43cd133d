/- Texts laid together: PExp, PRefP. No conditions. -/
import Derived.Test.YtacnfjjkhpkloaaGreatQAP
import Derived.Test.YtacnfjjkhpkloaaGreatQAQ
namespace Go.Proofs.YtacnfjjkhpkloaaGreat.Am
open Go
abbrev W3:=Int × Int × Int
def b43 (now then_ limit:Int):Bool:=decide (0 < limit) && (decide (then_ < now) && decide (a3P limit < a3P (a3P now - a3P then_)))
theorem c0p (a b c:Int):S6 a b c=some (b43 a b c):=by
 unfold S6 b43
 cases decide (0 < c) <;> cases decide (b < a) <;> rfl
theorem c4J (a b c:Int):a3H a b c=some (b43 a b c):=c0p a b c
def c0V (b s h t:Int) (w:W3):Bool:=b43 h w.2.1 b || b43 t w.2.2 s
def c0q (b s h t:Int) (m:List W3):List Int:=(m.filter (c0V b s h t)).map fun w=>w.1
def b2q (m:List W3):Prop:=m.Pairwise fun a b=>a.1 < b.1
theorem c2u (b s h t:Int) (m:List W3):(c0q b s h t m).length<=m.length:=by
 unfold c0q;rw [List.length_map];exact List.length_filter_le ..
theorem c0r (b s h t:Int) (m:List W3) (w:W3):c0q b s h t (m ++ [w])=c0q b s h t m ++ (if c0V b s h t w then [w.1] else []):=by
 unfold c0q
 rw [List.filter_append,List.map_append]
 congr 1
 cases he:c0V b s h t w <;> simp [List.filter,he]
theorem b1d {m:List W3} (h:b2q m):(D1 m).Pairwise fun a b=>a < b:=List.pairwise_map.2 h
theorem b44 {m:List W3} (h:b2q m):(D1 m).Nodup:=(b1d h).imp fun h=>by omega
theorem b45 {l m:List W3} (hp:l.Perm m) (h:b2q m):a4b (D1 l)=D1 m:=
 a3E a9g a9h b1Z ((b1d h).imp fun h=>decide_eq_true (by omega)) (H5 hp)
structure QJ (n:Nat) (l m:List W3):Prop where
 perm:l.Perm m
 sort:b2q m
 len:m.length<=n
 ids:∀ w ∈ m,-1000<=w.1/\w.1<=1000
theorem QJ.nodup {n:Nat} {l m:List W3} (h:QJ n l m):(D1 l).Nodup:=(H5 h.perm).nodup_iff.2 (b44 h.sort)
theorem c7d {n:Nat} {l m:List W3} (hj:QJ n l m) (hn:n<=1000000) (b s h t:Int):T4 b s l h t=some (b,s,l,c0q b s h t m):=by
 have hl:=hj.len
 have hnd:=hj.nodup
 have hg:a5e (D1 l)=true:=decide_eq_true ⟨hnd,fun x hx=>by
  obtain⟨v,hv⟩:=E8.1 hx
  have:=hj.ids _ (hj.perm.mem_iff.1 hv)
  dsimp only at this
  omega,by rw [a42,hj.perm.length_eq];unfold LIM;omega⟩
 refine a1q.1 ?_
 unfold T4
 rw [hg,M5,b45 hj.perm hj.sort,a42]
 unfold a06
 refine O4 m (fun i (acc:List Int)=>(h,t,((m.length:Nat):Int),((i:Nat):Int),b,s,l,acc,D1 m)) (fun i acc=>acc=c0q b s h t (m.take i)) (fun i acc hi hinv=>?_) (fun acc hinv=>?_) (b0:=[]) rfl (by omega)
 ·have hb:=c2u b s h t (m.take i)
  rw [List.length_take] at hb
  have hs:c0q b s h t (m.take (i + 1))=c0q b s h t (m.take i) ++ (if c0V b s h t m[i] then [m[i].1] else []):=by rw [M2 hi,c0r]
  rw [<-hinv] at hb hs
  have hk:(D1 m).getD i 0=m[i].1:=by rw [R4 (by rw [a42];exact hi)];simp [D1]
  have hget:W4 J8 m[i].1 U8 l=m[i].2:=a5q Q4 hnd (hj.perm.mem_iff.2 (List.getElem_mem hi))
  have hkl:=a42 m
  simp only [N8,c4J,H2 (i:=i) (by omega),D2,F8,C2,B9,C9,D4,decide_eq_true_eq,decide_eq_false_iff_not,Int.toNat_natCast,hk,hget]
  refine⟨fun _=>⟨by omega,by omega,fun h1=>⟨⟨by unfold LIM;omega,by unfold LEN;omega⟩,_,rfl,?_⟩,fun h1=>⟨fun h2=>⟨⟨by unfold LIM;omega,by unfold LEN;omega⟩,_,rfl,?_⟩,fun h2=>⟨_,rfl,?_⟩⟩⟩,fun h=>by omega⟩
  ·rw [hs,if_pos (by simp [c0V,h1])]
  ·rw [hs,if_pos (by simp [c0V,h2])]
  ·rw [hs,if_neg (by simp [c0V,h1,h2]),List.append_nil]
 ·subst hinv
  simp only [N8,D2,F8,C2,B9,C9,D4,decide_eq_true_eq,decide_eq_false_iff_not,Int.toNat_natCast]
  exact⟨fun h=>by omega,fun _=>by rw [List.take_length]⟩
def ltW (x:Int) (w:W3):Bool:=decide (w.1 < x)
def c7e (m:List W3) (x:W3):List W3 × Bool:=if x.1 ∈ D1 m then(m,false) else(m.filter (ltW x.1) ++ [x] ++ m.filter (fun y=> !ltW x.1 y),true)
def c7f (m:List W3) (id:Int):List W3 × Bool:=if id ∈ D1 m then(m.filter (fun w=>decide (w.1 ≠ id)),true) else(m,false)
theorem c0s {m:List W3} (hs:b2q m) {i:Nat} (hi:i < m.length):m.filter (fun w=>decide (w.1 ≠ m[i].1))=m.take i ++ m.drop (i + 1):=by
 have e:m=m.take i ++ m[i] :: m.drop (i + 1):=by rw [List.getElem_cons_drop,List.take_append_drop]
 have hs':=hs
 unfold b2q at hs'
 rw [e,List.pairwise_append,List.pairwise_cons] at hs'
 obtain⟨_,⟨h2,_⟩,h3⟩:=hs'
 generalize hx:m[i]=x at *
 conv=>lhs;rw [e]
 rw [List.filter_append,List.filter_cons_of_neg (by simp),List.filter_eq_self.2,List.filter_eq_self.2]
 ·intro y hy;have:=h2 y hy;simp;omega
 ·intro y hy;have:=h3 y hy x (by simp);simp;omega
theorem QJ.has {n:Nat} {l m:List W3} (h:QJ n l m) (id:Int):(a1r J8 id l).isSome=decide (id ∈ D1 m):=by
 have h1:=a1J Q4 id l
 have h2:=(H5 h.perm).mem_iff (a:=id)
 cases hb:(a1r J8 id l).isSome with
 | true=>exact(decide_eq_true (h2.1 (h1.1 hb))).symm
 | false=>exact(decide_eq_false (fun hm=>by rw [h1.2 (h2.2 hm)] at hb;cases hb)).symm
theorem c2v {m:List W3} (hs:b2q m) {x:W3} (hx:x.1 ∉ D1 m):b2q (m.filter (ltW x.1) ++ [x] ++ m.filter (fun y=> !ltW x.1 y)):=by
 have lt1:∀ y ∈ m.filter (ltW x.1),y.1 < x.1:=fun y hy=>of_decide_eq_true (List.mem_filter.1 hy).2
 have lt2:∀ y ∈ m.filter (fun y=> !ltW x.1 y),x.1 < y.1:=fun y hy=>by
  obtain⟨h1,h2⟩:=List.mem_filter.1 hy
  have h3:¬ y.1 < x.1:=by simpa [ltW] using h2
  have:y.1 ≠ x.1:=fun e=>hx (by rw [<-e];exact E8.2 ⟨y.2,h1⟩)
  omega
 unfold b2q
 rw [List.append_assoc,List.pairwise_append,List.singleton_append,List.pairwise_cons]
 refine⟨hs.filter _,⟨lt2,hs.filter _⟩,fun a ha b hb=>?_⟩
 rcases List.mem_cons.1 hb with rfl | hb
 ·exact lt1 a ha
 ·have:=lt1 a ha;have:=lt2 b hb;omega
theorem QJ.add {n:Nat} {l m:List W3} (h:QJ n l m) {x:W3} (hx: -1000<=x.1/\x.1<=1000):∃ l',(∀ b s,V0 b s l x.1 x.2.1 x.2.2=some (b,s,l',(c7e m x).2))/\QJ (n + 1) l' (c7e m x).1:=by
 have hh:=h.has x.1
 unfold c7e
 by_cases hm:x.1 ∈ D1 m
 ·rw [decide_eq_true hm] at hh
  refine⟨l,fun b s=>?_,?_⟩
  ·unfold V0
   rw [hh,if_pos hm];rfl
  ·rw [if_pos hm]
   exact⟨h.perm,h.sort,Nat.le_succ_of_le h.len,h.ids⟩
 ·rw [decide_eq_false hm] at hh
  have hml:x.1 ∉ D1 l:=fun hl=>hm ((H5 h.perm).mem_iff.1 hl)
  refine⟨l ++ [x],fun b s=>?_,?_⟩
  ·unfold V0
   rw [hh,if_neg hm,a71 Q4 hml];rfl
  ·rw [if_neg hm]
   have hp:=a73 (ltW x.1) m x
   refine⟨?_,c2v h.sort hm,by rw [hp.length_eq];simp;exact h.len,fun w hw=>?_⟩
   ·refine List.Perm.trans ?_ hp.symm
    exact List.Perm.trans (List.perm_append_comm (l₁:=l) (l₂:=[x])) (h.perm.cons x)
   ·rcases List.mem_cons.1 (hp.mem_iff.1 hw) with rfl | hw
    ·exact hx
    ·exact h.ids w hw
theorem QJ.rem {n:Nat} {l m:List W3} (h:QJ n l m) (id:Int):∃ l',(∀ b s,O6 b s l id=some (b,s,l',(c7f m id).2))/\QJ n l' (c7f m id).1:=by
 have hh:=h.has id
 unfold c7f
 by_cases hm:id ∈ D1 m
 ·rw [decide_eq_true hm] at hh
  obtain⟨v,hv⟩:=E8.1 hm
  obtain⟨i,hi,he⟩:=List.getElem_of_mem hv
  have hid:m[i].1=id:=by rw [he]
  refine⟨a5u J8 id l,fun b s=>?_,?_⟩
  ·unfold O6
   rw [hh,if_pos hm]
  ·rw [if_pos hm]
   have hf:=c0s h.sort hi
   rw [hid] at hf
   have hd:=a3g Q4 h.nodup (h.perm.mem_iff.2 hv)
   have hperm:((id,v) :: m.filter (fun w=>decide (w.1 ≠ id))).Perm m:=by
    rw [hf]
    have e:m=m.take i ++ m[i] :: m.drop (i + 1):=by rw [List.getElem_cons_drop,List.take_append_drop]
    have e2:m[i]=(id,v):=he
    rw [e2] at e
    conv=>rhs;rw [e]
    exact List.perm_middle.symm
   refine⟨(List.perm_cons (id,v)).1 ((hd.trans h.perm).trans hperm.symm),h.sort.filter _,Nat.le_trans (List.length_filter_le ..) h.len,fun w hw=>h.ids w (List.mem_filter.1 hw).1⟩
 ·rw [decide_eq_false hm] at hh
  have hml:id ∉ D1 l:=fun hl=>hm ((H5 h.perm).mem_iff.1 hl)
  refine⟨l,fun b s=>?_,?_⟩
  ·unfold O6
   rw [hh,if_neg hm,a6b Q4 hml]
  ·rw [if_neg hm];exact h
end Go.Proofs.YtacnfjjkhpkloaaGreat.Am
namespace Go.Proofs.YtacnfjjkhpkloaaGreat.Am
open Go
abbrev KD:=Vector UInt8 32
theorem c7g (a b:KD):U.beq (.arr 32 .byte) a b=decide (a=b):=by
 have h:U.beq (.arr 32 .byte) a b=true ↔ @Eq KD a b:=U.beq_iff (.arr 32 .byte) _ rfl a b
 by_cases e:a=b
 ·rw [decide_eq_true e];exact h.2 e
 ·rw [decide_eq_false e,<-Bool.not_eq_true];exact fun k=>e (h.1 k)
def isK (k:KD) (e:ED):Bool:=decide (e.1=k)
def atE (l:List ED) (k:KD):Int:=((l.findIdx? (isK k)).map fun(i:Nat)=>(i:Int)).getD (-1)
theorem c2w {l:List ED} (hl:l.length<=1000000) (k:KD):N5 l k=some (atE l k):=by
 refine a1q.1 ?_
 unfold N5 a21
 refine O4 l (fun i (_:Unit)=>(l,((l.length:Nat):Int),((i:Nat):Int),k)) (fun i _=>∀ e ∈ l.take i,isK k e=false) (fun i _ hi hne=>?_) (fun _ hne=>?_) (b0:=()) (by simp) (by omega)
 ·simp only [X7,H2 (i:=i) (by omega),D2,F8,B9,C9,D4,decide_eq_true_eq,decide_eq_false_iff_not,Int.toNat_natCast,R4 hi,c7g]
  refine⟨fun _=>⟨by omega,fun hk=>?_,fun hk=>⟨(),trivial,fun e he=>?_⟩⟩,fun h=>by omega⟩
  ·have:l.findIdx? (isK k)=some i:=by
    rw [List.findIdx?_eq_some_iff_getElem]
    refine⟨hi,decide_eq_true hk,fun j hj=>?_⟩
    have:=hne l[j] (List.mem_take_iff_getElem.2 ⟨j,by omega,rfl⟩)
    rw [this];decide
   unfold atE
   rw [this];rfl
  ·rw [M2 hi] at he
   rcases List.mem_append.1 he with he | he
   ·exact hne e he
   ·rw [List.mem_singleton.1 he];exact decide_eq_false hk
 ·rw [List.take_length] at hne
  simp only [X7,D2,F8,B9,C9,D4,decide_eq_true_eq,decide_eq_false_iff_not,Int.toNat_natCast]
  refine⟨fun h=>by omega,fun _=>?_⟩
  have:l.findIdx? (isK k)=none:=by rw [List.findIdx?_eq_none_iff];exact hne
  unfold atE
  rw [this];rfl
theorem b46 {l:List ED} {k:KD} (h:∀ e ∈ l,e.1 ≠ k):atE l k= -1:=by
 unfold atE
 have:l.findIdx? (isK k)=none:=List.findIdx?_eq_none_iff.2 fun e he=>decide_eq_false (h e he)
 rw [this];rfl
theorem b47 {l:List ED} {k:KD} (h:∃ e ∈ l,e.1=k):∃ i:Nat,atE l k=(i:Int)/\l.findIdx? (isK k)=some i/\∃ hi:i < l.length,l[i].1=k:=by
 cases hf:l.findIdx? (isK k) with
 | none=>
  obtain⟨e,he,hk⟩:=h
  have:=List.findIdx?_eq_none_iff.1 hf e he
  unfold isK at this
  rw [decide_eq_true hk] at this;cases this
 | some i=>
  obtain⟨hi,h1,_⟩:=List.findIdx?_eq_some_iff_getElem.1 hf
  exact⟨i,by unfold atE;rw [hf];rfl,rfl,hi,of_decide_eq_true h1⟩
theorem b7C {l:List ED} (hl:l.length<=1000000) {i:Nat} (hi:i < l.length):T7 l (i:Int)=some (l.eraseIdx i):=by
 refine a1q.1 ?_
 have e1:(l.take (Int.toNat ((l.length:Nat):Int))).drop (i + 1)=l.drop (i + 1):=by rw [Int.toNat_natCast,List.take_length]
 simp only [T7,H2 (i:=i) (by omega),F8,B9,decide_eq_true_eq,Int.toNat_natCast,List.length_take,List.length_drop,List.take_length]
 refine⟨by omega,a4Z (by omega),by omega,a4Z (by omega),?_⟩
 rw [List.eraseIdx_eq_take_drop_succ]
theorem b3D {c:a2r} {l:List ED} (hl:l.length<=1000000) (k:KD):V3 (c,l) k=some ((c,l.eraseP (isK k)),decide (∃ e ∈ l,e.1=k)):=by
 unfold V3
 dsimp only
 rw [c2w hl,Option.bind_some]
 by_cases h:∃ e ∈ l,e.1=k
 ·obtain⟨i,h1,h2,hi,_⟩:=b47 h
  rw [h1,decide_eq_false (by omega),L0,b7C hl hi,Option.bind_some,decide_eq_true h,List.eraseP_eq_eraseIdx,h2]
 ·have h':∀ e ∈ l,e.1 ≠ k:=fun e he hk=>h ⟨e,he,hk⟩
  rw [b46 h',decide_eq_true (by omega),U3,decide_eq_false h,List.eraseP_of_forall_not fun e he=>by rw [isK,decide_eq_false (h' e he)];decide]
def P0 (l:List ED):Nat:=(l.map a6S).sum
theorem b0i {l:List ED} (hl:l.length<=1000000) (hb:P0 l<=4611686018427387904):Q7 l=some ((P0 l:Nat):Int):=by
 refine a1q.1 ?_
 unfold Q7 a1P
 refine O4 l (fun i (j:Nat)=>(((j:Nat):Int),l,((l.length:Nat):Int),((i:Nat):Int))) (fun i j=>j=P0 (l.take i)) (fun i j hi hinv=>?_) (fun j hinv=>?_) (b0:=0) (by simp [P0]) (by omega)
 ·have h1:=a6s a6S l (i + 1)
  have h2:P0 (l.take (i + 1))=j + a6S l[i]:=by unfold P0;rw [M2 hi,List.map_append,List.sum_append,hinv];simp [P0]
  simp only [R1,H2 (i:=i) (by omega),D2,F8,B9,C9,D4,decide_eq_true_eq,decide_eq_false_iff_not,Int.toNat_natCast,R4 hi]
  refine⟨fun _=>⟨by omega,j + a6S l[i],?_,h2.symm⟩,fun h=>by omega⟩
  have:C6 ((j:Int) + ((l[i].2.1.length:Nat):Int))=((j + a6S l[i]:Nat):Int):=by
   show C6 ((j:Int) + ((a6S l[i]:Nat):Int))=_
   unfold P0 at h2 hb
   rw [E4] <;> omega
  rw [this]
 ·rw [List.take_length] at hinv
  simp only [R1,D2,F8,B9,C9,D4,decide_eq_true_eq,decide_eq_false_iff_not,Int.toNat_natCast]
  exact⟨fun h=>by omega,fun _=>by rw [hinv]⟩
def a1S (l:List ED) (k:KD):Prop:=∃ e ∈ l,e.1=k
def b0j (l:List ED) (n:List UInt8) (q:Int):Prop:=∃ e ∈ l,e.2.2.1=n/\e.2.2.2.1=q
instance (l:List ED) (k:KD):Decidable (a1S l k):=by unfold a1S;infer_instance
instance (l:List ED) (n:List UInt8) (q:Int):Decidable (b0j l n q):=by unfold b0j;infer_instance
def a7s (c:a2r) (l:List ED) (e:ED):List ED × Int:=
 if a1S l e.1 then(l,8) else if b0j l e.2.2.1 e.2.2.2.1 then(l,9) else if c.1<=(l.length:Int)\/c.2.1 < ((P0 l + a6S e:Nat):Int) then(l,24) else(l ++ [e],0)
theorem b3E {c:a2r} {l:List ED} (hl:l.length<=1000000) (e:ED) (hb:P0 l<=1000000000000) (he:a6S e<=1000000):V4 (c,l) e=some ((c,(a7s c l e).1),(a7s c l e).2):=by
 refine a1q.1 ?_
 unfold V4
 dsimp only
 rw [c2w hl,C2,B9,D2]
 refine⟨fun h=>?_,fun h=>?_⟩
 ·have h:=of_decide_eq_true h
  have hk:a1S l e.1:=Classical.byContradiction fun hn=>by
   rw [b46 fun x hx hk=>hn ⟨x,hx,hk⟩] at h;omega
  rw [B9]
  unfold a7s
  rw [if_pos hk]
 ·have h:=of_decide_eq_false h
  have hk:¬ a1S l e.1:=fun hk=>by
   obtain⟨i,h1,_⟩:=b47 hk
   rw [h1] at h;omega
  unfold a1m
  generalize ((((0:Int),(0:Int),(0:Int),(0:Int),(0:Int),(0:Int),false,(0:Int),(0:Int),(0:Int),(0:Int),(0:Int)),[]):A5)=z
  refine O4 l (fun i (_:Unit)=>(l,((l.length:Nat):Int),((i:Nat):Int),((c,l):A5),e,z)) (fun i _=>∀ x ∈ l.take i,¬ (x.2.2.1=e.2.2.1/\x.2.2.2.1=e.2.2.2.1)) (fun i _ hi hne=>?_) (fun _ hne=>?_) (b0:=()) (by simp) (by omega)
  ·have hskip:¬ (l[i].2.2.1=e.2.2.1/\l[i].2.2.2.1=e.2.2.2.1)->∀ x ∈ l.take (i + 1),¬ (x.2.2.1=e.2.2.1/\x.2.2.2.1=e.2.2.2.1):=fun hn x hx=>by
    rw [M2 hi] at hx
    rcases List.mem_append.1 hx with hx | hx
    ·exact hne x hx
    ·rw [List.mem_singleton.1 hx];exact hn
   simp only [P6,H2 (i:=i) (by omega),D2,F8,B9,F0,C9,D4,decide_eq_true_eq,decide_eq_false_iff_not,Int.toNat_natCast,R4 hi]
   refine⟨fun _=>⟨by omega,fun h1=>⟨fun h2=>?_,fun h2=>⟨(),trivial,hskip fun h=>h2 h.2⟩⟩,fun h1=>⟨(),trivial,hskip fun h=>h1 h.1⟩⟩,fun h=>by omega⟩
   unfold a7s
   rw [if_neg hk,if_pos ⟨l[i],List.getElem_mem hi,h1,h2⟩]
  ·rw [List.take_length] at hne
   have hs:¬ b0j l e.2.2.1 e.2.2.2.1:=fun⟨x,hx,h⟩=>hne x hx h
   have hw:C6 (((P0 l:Nat):Int) + ((e.2.1.length:Nat):Int))=((P0 l + a6S e:Nat):Int):=by
    show C6 (((P0 l:Nat):Int) + ((a6S e:Nat):Int))=_
    rw [E4] <;> omega
   have hins:a7s c l e=if c.1<=(l.length:Int)\/c.2.1 < ((P0 l + a6S e:Nat):Int) then(l,24) else(l ++ [e],0):=by
    unfold a7s
    rw [if_neg hk,if_neg hs]
   simp only [P6,Y3,D2,F8,C2,B9,F0,C9,D4,decide_eq_true_eq,decide_eq_false_iff_not,Int.toNat_natCast,b0i hl (Nat.le_trans hb (by omega)),hw]
   refine⟨fun h=>by omega,fun _=>⟨fun h1=>?_,fun h1=>⟨fun h2=>?_,fun h2=>⟨a4Z (by omega),a4Z (by omega),?_⟩⟩⟩⟩
   ·rw [hins,if_pos (.inl h1)]
   ·rw [hins,if_pos (.inr h2)]
   ·rw [hins,if_neg (by omega)]
def a6H (c:a2r) (h t:Int) (e:ED):Bool:=b43 h e.2.2.2.2.2.2.1 c.2.2.2.2.1 || b43 t e.2.2.2.2.2.2.2.1 c.2.2.2.2.2.1
def a8u (c:a2r) (l:List ED) (h t:Int):List KD:=(l.filter (a6H c h t)).map (·.1)
theorem b7D (c:a2r) (l:List ED) (e:ED) (h t:Int):a8u c (l ++ [e]) h t=a8u c l h t ++ (if a6H c h t e then [e.1] else []):=by
 unfold a8u
 rw [List.filter_append,List.map_append]
 by_cases k:a6H c h t e=true
 ·rw [if_pos k,List.filter_cons_of_pos k];rfl
 ·rw [if_neg k,List.filter_cons_of_neg k];rfl
theorem b3F (c:a2r) (l:List ED) (h t:Int):(a8u c l h t).length<=l.length:=by
 unfold a8u;rw [List.length_map];exact List.length_filter_le ..
theorem c4K {l:List ED} (hl:l.length<=1000000) (c:a2r) (h t:Int):Z8 c l h t=some (a8u c l h t):=by
 refine a1q.1 ?_
 unfold Z8 a2f
 refine O4 l (fun i (out:List KD)=>(h,t,l,((l.length:Nat):Int),((i:Nat):Int),c,out)) (fun i out=>out=a8u c (l.take i) h t) (fun i out hi hinv=>?_) (fun out hinv=>?_) (b0:=[]) rfl (by omega)
 ·have h1:=b3F c (l.take i) h t
  rw [<-hinv,List.length_take] at h1
  have h2:a8u c (l.take (i + 1)) h t=out ++ (if a6H c h t l[i] then [l[i].1] else []):=by rw [M2 hi,b7D,hinv]
  simp only [T9,H2 (i:=i) (by omega),c0p,D2,F8,C2,B9,C9,D4,decide_eq_true_eq,decide_eq_false_iff_not,Int.toNat_natCast,R4 hi]
  refine⟨fun _=>⟨by omega,fun k1=>⟨⟨by unfold LIM;omega,by unfold LEN;omega⟩,_,rfl,?_⟩,fun k1=>⟨fun k2=>⟨⟨by unfold LIM;omega,by unfold LEN;omega⟩,_,rfl,?_⟩,fun k2=>⟨_,rfl,?_⟩⟩⟩,fun h=>by omega⟩
  ·rw [h2,if_pos (by unfold a6H;rw [k1];rfl)]
  ·rw [h2,if_pos (by unfold a6H;rw [k1,k2];rfl)]
  ·rw [h2,if_neg (by unfold a6H;rw [k1,k2];decide),List.append_nil]
 ·rw [List.take_length] at hinv
  simp only [T9,D2,F8,C2,B9,C9,D4,decide_eq_true_eq,decide_eq_false_iff_not,Int.toNat_natCast]
  exact⟨fun h=>by omega,fun _=>hinv⟩
def cS (a b:ED):Int:=c5c a.2.2.2.1 b.2.2.2.1
theorem b48 {a b:ED}:ltc cS a b=true ↔ a.2.2.2.1 < b.2.2.2.1:=by
 unfold ltc cS c5c
 rw [decide_eq_true_eq]
 split
 ·simp;omega
 ·split <;> simp <;> omega
theorem b6y {a b:ED}:ltc cS a b=false ↔ ¬ a.2.2.2.1 < b.2.2.2.1:=by rw [<-b48,Bool.not_eq_true]
def isN (n:List UInt8) (e:ED):Bool:=decide (e.2.2.1=n)
def a7o (l:List ED) (n:List UInt8):List ED:=a4Y (ltc cS) (l.filter (isN n))
theorem b3G (l:List ED) (n:List UInt8):(a7o l n).length<=l.length:=by
 unfold a7o;rw [b0d];exact List.length_filter_le ..
theorem b7E (l:List ED) (n:List UInt8) (e:ED):a7o (l ++ [e]) n=if e.2.2.1=n then a58 (ltc cS) e (a7o l n) else a7o l n:=by
 unfold a7o
 rw [List.filter_append]
 by_cases h:e.2.2.1=n
 ·have hN:isN n e=true:=decide_eq_true h
  rw [if_pos h,List.filter_cons_of_pos hN,List.filter_nil,a1R]
 ·have hN:¬ isN n e=true:=by rw [isN,decide_eq_false h];decide
  rw [if_neg h,List.filter_cons_of_neg hN,List.filter_nil,List.append_nil]
theorem b7F {e:ED} {n:List UInt8} {v9:List ED} {v10:Int} {i:Nat} {out:List ED} (hl:out.length < 977343669105) (hi:i < 1000000000000):W8 n ((out.length:Nat):Int) v9 v10 (i:Int) e out=some (.inl (n,v9,v10,((i + 1:Nat):Int),a58 (ltc cS) e out)):=by
 unfold W8
 refine a1q.1 (O3 (fun m v=>∃ s t,s.length=m/\out=s ++ t/\a58 (ltc cS) e out=a58 (ltc cS) e s ++ t/\v=(n,((s.length:Nat):Int),v9,v10,(i:Int),e,out)) ?_ ⟨out,[],rfl,by simp,by simp,rfl⟩ (by omega))
 rintro m v ⟨s,t,rfl,rfl,hins,rfl⟩
 simp only [List.length_append] at hl
 have place:a58 (ltc cS) e s=s ++ [e]->Ok (K6 n ((s.length:Nat):Int) v9 v10 (i:Int) e (s ++ t)) fun r=>r= .inl (n,v9,v10,((i + 1:Nat):Int),a58 (ltc cS) e (s ++ t)):=fun hp=>by
  have e1:(s ++ t).take s.length=s:=List.take_left
  have e2:((s ++ t).take (Int.toNat (((List.length (s ++ t)):Nat):Int))).drop s.length=t:=by rw [Int.toNat_natCast,List.take_length,List.drop_left]
  have e3:(s ++ [e]).length=s.length + 1:=by rw [List.length_append];rfl
  have e4:(s ++ t).length=s.length + t.length:=List.length_append
  simp only [K6,H2 (i:=i) (by omega),F8,B9,decide_eq_true_eq]
  rw [Int.toNat_natCast (n:=s.length),e2,e1,e3,e4]
  refine⟨by omega,a4Z (by omega),a4Z (by omega),by omega,a4Z (by omega),?_⟩
  rw [hins,hp]
 dsimp only
 rcases Nat.eq_zero_or_pos s.length with h0 | h0
 ·have:=List.eq_nil_of_length_eq_zero h0
  subst this
  simp only [P9,D2,F0,decide_eq_true_eq,decide_eq_false_iff_not]
  exact⟨fun h=>by simp at h,fun _=>place (by rw [a9l];rfl)⟩
 ·obtain⟨s2,y,rfl⟩:=a4m h0
  have e3:(s2 ++ [y]).length=s2.length + 1:=by rw [List.length_append];rfl
  rw [e3] at hl
  have w0:C6 ((((s2 ++ [y]).length:Nat):Int) - 1)=((s2.length:Nat):Int):=by rw [e3,E4] <;> omega
  have e5:(s2 ++ [y] ++ t)=s2 ++ y :: t:=by rw [List.append_assoc];rfl
  have gy:(s2 ++ [y] ++ t).getD s2.length B7=y:=by rw [e5];exact c0k rfl
  have e4:(s2 ++ [y] ++ t).length=s2.length + 1 + t.length:=by rw [List.length_append,e3]
  have go:ltc cS e y=true->∃ m,m < (s2 ++ [y]).length/\∃ s t',s.length=m/\s2 ++ [y] ++ t=s ++ t'/\a58 (ltc cS) e (s2 ++ [y] ++ t)=a58 (ltc cS) e s ++ t'/\(n,((s2.length:Nat):Int),v9,v10,(i:Int),e,s2 ++ [y] ++ t)=(n,((s.length:Nat):Int),v9,v10,(i:Int),e,s2 ++ [y] ++ t):=fun hl=>by
   refine⟨s2.length,by omega,s2,y :: t,rfl,e5,?_,rfl⟩
   rw [hins,a2p,if_pos hl,List.append_assoc]
   rfl
  have stop:ltc cS e y=false->a58 (ltc cS) e (s2 ++ [y])=s2 ++ [y] ++ [e]:=fun hl=>by
   rw [a2p,hl,List.append_assoc]
   rfl
  simp only [P9,w0,D2,F8,B9,F0,C9,D4,decide_eq_true_eq,decide_eq_false_iff_not,Int.toNat_natCast,gy,e4]
  exact⟨fun _=>⟨by omega,by omega,fun h1=>go (b48.2 h1),fun h1=>place (stop (b6y.2 h1))⟩,fun h=>by omega⟩
theorem b7G {l:List ED} (hl:l.length<=1000000) (n:List UInt8):V6 l n=some (a7o l n):=by
 refine a1q.1 ?_
 unfold V6 a1o
 refine O4 l (fun i (acc:List ED)=>(n,l,((l.length:Nat):Int),((i:Nat):Int),acc)) (fun i acc=>acc=a7o (l.take i) n) (fun i acc hi hinv=>?_) (fun acc hinv=>?_) (b0:=[]) rfl (by omega)
 ·subst hinv
  have hlen:=b3G (l.take i) n
  rw [List.length_take] at hlen
  have h3:=b7F (e:=l.getD i B7) (n:=n) (v9:=l) (v10:=((l.length:Nat):Int)) (i:=i) (out:=a7o (l.take i) n) (by omega) (by omega)
  have h4:=b7E (l.take i) n l[i]
  rw [<-M2 hi] at h4
  simp only [Q0,D2,F8,B9,C9,decide_eq_true_eq,decide_eq_false_iff_not,Int.toNat_natCast,h3,Bool.not_eq_true',Bool.not_eq_false',H2 (i:=i) (by omega)]
  refine⟨fun _=>⟨by omega,fun h=>⟨_,rfl,?_⟩,fun h=>?_⟩,fun h=>by omega⟩
  ·rw [R4 hi] at h
   rw [h4,if_neg h]
  ·rw [R4 hi] at h
   refine⟨_,rfl,?_⟩
   rw [h4,if_pos h,R4 hi]
 ·subst hinv
  simp only [Q0,D2,F8,B9,C9,D4,decide_eq_true_eq,decide_eq_false_iff_not,Bool.not_eq_true',Bool.not_eq_false',Int.toNat_natCast]
  exact⟨fun h=>by omega,fun _=>by rw [List.take_length]⟩
end Go.Proofs.YtacnfjjkhpkloaaGreat.Am
