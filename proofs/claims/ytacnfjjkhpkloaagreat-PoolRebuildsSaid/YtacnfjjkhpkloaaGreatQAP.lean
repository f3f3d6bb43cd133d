/- Texts laid together: PMap, Bl, PHeapL, PWt. No conditions. -/
import Derived.Test.YtacnfjjkhpkloaaGreatKD
import Derived.Test.YtacnfjjkhpkloaaGreatQAO
import Derived.Test.YtacnfjjkhpkloaaGreatQAB
namespace Go.Proofs.YtacnfjjkhpkloaaGreat.Am
open Go
def a6a {α:Type} (eq:α->α->Bool):Prop:=∀ a b,eq a b=true ↔ a=b
theorem Q4:a6a J8:=fun a b=>by simp [J8]
theorem a0K:a6a D3:=fun a b=>by simp [D3]
section
variable {α β:Type} {eq:α->α->Bool}
theorem a0R (p:α × β) (l:List (α × β)):D1 (p :: l)=p.1 :: D1 l:=rfl
theorem a42 (l:List (α × β)):(D1 l).length=l.length:=List.length_map ..
theorem H5 {l l':List (α × β)} (h:l.Perm l'):(D1 l).Perm (D1 l'):=h.map _
theorem E8 {k:α} {l:List (α × β)}:k ∈ D1 l ↔ ∃ v,(k,v) ∈ l:=by
 unfold D1
 rw [List.mem_map]
 exact⟨fun⟨p,h,e⟩=>⟨p.2,by rw [<-e];exact h⟩,fun⟨v,h⟩=>⟨_,h,rfl⟩⟩
theorem a1J (he:a6a eq) (k:α):∀ l:List (α × β),(a1r eq k l).isSome=true ↔ k ∈ D1 l
 | []=>by simp [a1r,D1]
 | p :: l=>by
  rw [a0R,List.mem_cons,<-a1J he k l,<-he]
  show(if eq k p.1=true then some 0 else(a1r eq k l).map (· + 1)).isSome=true ↔ _
  by_cases h:eq k p.1=true <;> simp [h]
theorem b0g (he:a6a eq) {k:α} {l:List (α × β)} (h:k ∉ D1 l):a1r eq k l=none:=by
 cases hm:a1r eq k l with
 | none=>rfl
 | some i=>exact(h ((a1J he k l).1 (by rw [hm];rfl))).elim
theorem a7Z (he:a6a eq) {k:α} {d:β} {l:List (α × β)} (h:k ∉ D1 l):W4 eq k d l=d:=by
 unfold W4;rw [b0g he h];rfl
theorem a71 (he:a6a eq) {k:α} {v:β} {l:List (α × β)} (h:k ∉ D1 l):a1V eq k v l=l ++ [(k,v)]:=by
 unfold a1V;rw [b0g he h]
theorem a6b (he:a6a eq) {k:α} {l:List (α × β)} (h:k ∉ D1 l):a5u eq k l=l:=by
 unfold a5u;rw [b0g he h]
theorem a9m (he:a6a eq) {k:α} {v:β}:∀ {l:List (α × β)},(D1 l).Nodup->(k,v) ∈ l->∃ i,a1r eq k l=some i/\l[i]?=some (k,v)
 | p :: l,hnd,hm=>by
  rw [a0R,List.nodup_cons] at hnd
  unfold a1r
  rcases List.mem_cons.1 hm with e | hm
  ·subst e
   exact⟨0,by simp [(he k k).2 rfl],rfl⟩
  ·have hne:¬ eq k p.1=true:=fun e=>hnd.1 (by rw [<-(he _ _).1 e];exact E8.2 ⟨v,hm⟩)
   obtain⟨i,h1,h2⟩:=a9m he hnd.2 hm
   exact⟨i + 1,by rw [if_neg hne,h1];rfl,by simpa using h2⟩
theorem a5q (he:a6a eq) {k:α} {v d:β} {l:List (α × β)} (hnd:(D1 l).Nodup) (hm:(k,v) ∈ l):W4 eq k d l=v:=by
 obtain⟨i,h1,h2⟩:=a9m he hnd hm
 unfold W4
 rw [h1,Option.bind_some,h2];rfl
theorem b7B {γ:Type} {l:List γ} {i:Nat} (h:i < l.length):(l[i] :: l.eraseIdx i).Perm l:=by
 rw [List.eraseIdx_eq_take_drop_succ]
 refine List.perm_middle.symm.trans ?_
 rw [List.getElem_cons_drop,List.take_append_drop]
theorem c2q {γ:Type} {l:List γ} {i:Nat} (h:i < l.length) (a:γ):(l.set i a).Perm (a :: l.eraseIdx i):=by
 rw [List.eraseIdx_eq_take_drop_succ,List.set_eq_take_append_cons_drop,if_pos h]
 exact List.perm_middle
theorem a3g (he:a6a eq) {k:α} {v:β} {l:List (α × β)} (hnd:(D1 l).Nodup) (hm:(k,v) ∈ l):((k,v) :: a5u eq k l).Perm l:=by
 obtain⟨i,h1,h2⟩:=a9m he hnd hm
 unfold a5u
 rw [h1]
 obtain⟨h3,h4⟩:=List.getElem?_eq_some_iff.1 h2
 have:=b7B h3
 rw [h4] at this
 exact this
theorem b2m (he:a6a eq) {k:α} {v v0:β} {l:List (α × β)} (hnd:(D1 l).Nodup) (hm:(k,v0) ∈ l):(a1V eq k v l).Perm ((k,v) :: a5u eq k l):=by
 obtain⟨i,h1,h2⟩:=a9m he hnd hm
 unfold a1V a5u
 rw [h1]
 obtain⟨h3,_⟩:=List.getElem?_eq_some_iff.1 h2
 exact c2q h3 _
def Pre (P:α->Bool) (m:List α):Prop:=m.Pairwise fun a b=>P b=true->P a=true
theorem c2r {P:α->Bool} {m:List α} (h:∀ x ∈ m,P x=false):m.countP P=0/\m.filter P=[]/\m.filter (fun x=> !P x)=m:=by
 refine⟨List.countP_eq_zero.2 fun x hx=>by rw [h x hx];simp,List.filter_eq_nil_iff.2 fun x hx=>by rw [h x hx];simp,List.filter_eq_self.2 fun x hx=>by rw [h x hx];rfl⟩
theorem a72 {P:α->Bool}:∀ {m:List α},Pre P m->m.take (m.countP P)=m.filter P/\m.drop (m.countP P)=m.filter (fun x=> !P x)
 | [],_=>⟨rfl,rfl⟩
 | x :: m,h=>by
  unfold Pre at h
  rw [List.pairwise_cons] at h
  cases hx:P x with
  | true=>
   obtain⟨h1,h2⟩:=a72 (m:=m) h.2
   rw [List.countP_cons_of_pos hx,List.take_succ_cons,List.drop_succ_cons,h1,h2,List.filter_cons_of_pos hx,List.filter_cons_of_neg (by simp [hx])]
   exact⟨rfl,rfl⟩
  | false=>
   have hn:∀ y ∈ m,P y=false:=fun y hy=>by
    cases hy':P y with
    | false=>rfl
    | true=>have:=h.1 y hy hy';rw [hx] at this;cases this
   obtain⟨h1,h2,h3⟩:=c2r hn
   rw [List.countP_cons_of_neg (by simp [hx]),h1,List.filter_cons_of_neg (by simp [hx]),h2,List.filter_cons_of_pos (by simp [hx]),h3]
   exact⟨rfl,rfl⟩
theorem c0m {P:α->Bool} {m:List α} (h:Pre P m) {i:Nat} (hi:i < m.length) (hp:P m[i]=true):(m.take (i + 1)).countP P=i + 1:=by
 have hl:(m.take (i + 1)).length=i + 1:=by rw [List.length_take];omega
 rw [<-hl]
 rw [List.countP_eq_length.2]
 ·rw [hl];rw [hl]
 ·intro x hx
  obtain⟨j,hj,rfl⟩:=List.getElem_of_mem hx
  rw [List.getElem_take]
  rw [hl] at hj
  rcases Nat.lt_or_ge j i with hlt | hge
  ·exact List.pairwise_iff_getElem.1 h j i (by omega) hi hlt hp
  ·have:j=i:=by omega
   subst this;exact hp
theorem a73 (P:α->Bool) (m:List α) (x:α):(m.filter P ++ [x] ++ m.filter (fun y=> !P y)).Perm (x :: m):=by
 refine List.Perm.trans ?_ ((List.filter_append_perm P m).cons x)
 rw [List.append_assoc]
 exact List.perm_middle
end
end Go.Proofs.YtacnfjjkhpkloaaGreat.Am
namespace Go.Proofs.YtacnfjjkhpkloaaGreat.Am
open Go
theorem a75:∀ (x:List UInt8),Op.bytesLess x x=false
 | []=>rfl
 | a :: x=>by rw [Op.bytesLess,a75 x];simp
theorem b5d (a b:UInt8) (x y:List UInt8):Op.bytesLess (a :: x) (b :: y)=true ↔ a.toNat < b.toNat\/(a.toNat=b.toNat/\Op.bytesLess x y=true):=by
 rw [Op.bytesLess]
 simp only [Bool.or_eq_true,Bool.and_eq_true,decide_eq_true_eq,beq_iff_eq]
 rw [UInt8.lt_iff_toNat_lt,<-UInt8.toNat_inj]
theorem b6A:∀ {x y z:List UInt8},Op.bytesLess x y=true->Op.bytesLess y z=true->Op.bytesLess x z=true
 | x,[],z,h,_=>by cases x <;> cases h
 | x,_ :: _,[],_,h=>by cases h
 | [],_ :: _,_ :: _,_,_=>rfl
 | a :: x,b :: y,c :: z,h,k=>by
  rw [b5d] at h k ⊢
  rcases h with h | ⟨h1,h2⟩ <;> rcases k with k | ⟨k1,k2⟩
  ·left;omega
  ·left;omega
  ·left;omega
  ·right;exact⟨by omega,b6A h2 k2⟩
theorem c3i:∀ (x y:List UInt8),Op.bytesLess x y=true\/x=y\/Op.bytesLess y x=true
 | [],[]=> .inr (.inl rfl)
 | [],_ :: _=> .inl rfl
 | _ :: _,[]=> .inr (.inr rfl)
 | a :: x,b :: y=>by
  rw [b5d,b5d]
  rcases Nat.lt_trichotomy a.toNat b.toNat with h | h | h
  ·exact .inl (.inl h)
  ·rcases c3i x y with k | k | k
   ·exact .inl (.inr ⟨h,k⟩)
   ·exact .inr (.inl (by rw [UInt8.toNat_inj.1 h,k]))
   ·exact .inr (.inr (.inr ⟨h.symm,k⟩))
  ·exact .inr (.inr (.inl h))
end Go.Proofs.YtacnfjjkhpkloaaGreat.Am
namespace Go.Proofs.YtacnfjjkhpkloaaGreat.Am
open Go
abbrev IT:=Int × Int × Int
def Bef (a b:IT):Prop:=b.2.1 < a.2.1\/(a.2.1=b.2.1/\(a.2.2 < b.2.2\/(a.2.2=b.2.2/\a.1 < b.1)))
instance (a b:IT):Decidable (Bef a b):=by unfold Bef;infer_instance
theorem Bef.irrefl (a:IT):¬ Bef a a:=by unfold Bef;omega
theorem Bef.asymm {a b:IT} (h:Bef a b):¬ Bef b a:=by unfold Bef at *;omega
theorem Bef.trans {a b c:IT} (h:Bef a b) (k:Bef b c):Bef a c:=by unfold Bef at *;omega
theorem Bef.ntrans {a b c:IT} (h:¬ Bef a b) (k:¬ Bef b c):¬ Bef a c:=by unfold Bef at *;omega
theorem Bef.tri {a b:IT} (h:¬ Bef a b) (k:¬ Bef b a):a=b:=by
 obtain⟨a1,a2,a3⟩:=a
 obtain⟨b1,b2,b3⟩:=b
 unfold Bef at *
 simp only at h k
 have e1:a1=b1:=by omega
 have e2:a2=b2:=by omega
 have e3:a3=b3:=by omega
 rw [e1,e2,e3]
def nth (l:List IT) (i:Nat):IT:=l.getD i ((0:Int),(0:Int),(0:Int))
theorem a78 {l:List IT} {i:Nat} (h:i < l.length):nth l i=l[i]:=R4 h _
theorem c0A {l:List IT} {i:Nat} (h:i < l.length):nth l i ∈ l:=by rw [a78 h];exact List.getElem_mem h
theorem c0B (l:List IT) (i m:Nat) (x:IT) (hi:i < l.length):nth (l.set i x) m=if m=i then x else nth l m:=by
 unfold nth
 rw [List.getD_eq_getElem?_getD,List.getElem?_set]
 by_cases h:i=m
 ·subst h;simp [hi]
 ·rw [if_neg h,if_neg (fun e=>h e.symm),List.getD_eq_getElem?_getD]
theorem a79 {l:List IT} {n m:Nat} (h:m < n):nth (l.take n) m=nth l m:=by
 unfold nth
 rw [List.getD_eq_getElem?_getD,List.getElem?_take_of_lt h,List.getD_eq_getElem?_getD]
theorem b2w {l:List IT} {m:Nat} (x:IT) (h:m < l.length):nth (l ++ [x]) m=nth l m:=by
 unfold nth
 rw [List.getD_eq_getElem?_getD,List.getElem?_append_left h,List.getD_eq_getElem?_getD]
theorem c0C (l:List IT) (x:IT):nth (l ++ [x]) l.length=x:=by
 unfold nth
 rw [List.getD_eq_getElem?_getD,List.getElem?_append_right (Nat.le_refl _),Nat.sub_self];rfl
def sw (l:List IT) (i j:Nat):List IT:=(l.set i (nth l j)).set j (nth l i)
theorem a8a (l:List IT) (i j:Nat):(sw l i j).length=l.length:=by unfold sw;rw [List.length_set,List.length_set]
theorem a4o {l:List IT} {i j:Nat} (hi:i < l.length) (hj:j < l.length) (m:Nat):nth (sw l i j) m=if m=j then nth l i else if m=i then nth l j else nth l m:=by
 unfold sw
 rw [c0B _ _ _ _ (by rw [List.length_set];exact hj)]
 split
 ·rfl
 ·rw [c0B _ _ _ _ hi]
theorem b2x {l:List IT} {i j:Nat} (hi:i < l.length) (hj:j < l.length):(sw l i j).Perm l:=by
 unfold sw
 rw [a78 hi,a78 hj]
 exact List.set_set_perm hi hj
def b2G (l:List IT) (k:Nat):Prop:=¬ Bef (nth l k) (nth l ((k - 1) / 2))
def a7p (l:List IT):Prop:=∀ k,0 < k->k < l.length->b2G l k
def c81 (l:List IT) (i:Nat):Prop:=0 < i->∀ c,0 < c->c < l.length->(c - 1) / 2=i->¬ Bef (nth l c) (nth l ((i - 1) / 2))
def AH (l:List IT) (i:Nat):Prop:=(∀ k,0 < k->k < l.length->k ≠ i->(k - 1) / 2 ≠ i->b2G l k)/\c81 l i
def DH (l:List IT) (i:Nat):Prop:=(∀ k,0 < k->k < l.length->(k - 1) / 2 ≠ i->b2G l k)/\c81 l i
def UH (l:List IT) (i:Nat):Prop:=(∀ k,0 < k->k < l.length->k ≠ i->b2G l k)/\c81 l i
theorem c4N {l:List IT} {i p:Nat} (hi:0 < i) (hl:i < l.length) (hp:(i - 1) / 2=p) (h:AH l i) (hb:Bef (nth l i) (nth l p)):UH (sw l i p) p:=by
 have hpi:p < i:=by omega
 have hpl:p < l.length:=by omega
 refine⟨fun k k0 kl kp=>?_,fun p0 c c0 cl cp=>?_⟩
 ·rw [a8a] at kl
  unfold b2G
  rw [a4o hl hpl k,a4o hl hpl ((k - 1) / 2),if_neg kp]
  by_cases h1:k=i
  ·rw [if_pos h1,if_pos (by rw [h1];exact hp)]
   exact hb.asymm
  ·rw [if_neg h1]
   by_cases h2:(k - 1) / 2=p
   ·rw [if_pos h2]
    have:=h.1 k k0 kl h1 (by omega)
    unfold b2G at this
    rw [h2] at this
    exact fun hx=>this (hx.trans hb)
   ·rw [if_neg h2]
    by_cases h3:(k - 1) / 2=i
    ·rw [if_pos h3]
     have:=h.2 hi k k0 kl h3
     rw [hp] at this
     exact this
    ·rw [if_neg h3]
     exact h.1 k k0 kl h1 h3
 ·rw [a8a] at cl
  have hpo:=h.1 p p0 hpl (by omega) (by omega)
  rw [a4o hl hpl c,a4o hl hpl ((p - 1) / 2),if_neg (show(p - 1) / 2 ≠ p by omega),if_neg (show(p - 1) / 2 ≠ i by omega),if_neg (show c ≠ p by omega)]
  by_cases h1:c=i
  ·rw [if_pos h1];exact hpo
  ·rw [if_neg h1]
   have:=h.1 c c0 cl h1 (by omega)
   unfold b2G at this hpo
   rw [cp] at this
   exact Bef.ntrans this hpo
theorem UH.ah {l:List IT} {i:Nat} (h:UH l i):AH l i:=⟨fun k k0 kl ki _=>h.1 k k0 kl ki,h.2⟩
theorem c2z {l:List IT} {i:Nat} (h:AH l i) (hs:i=0\/b2G l i):DH l i:=⟨fun k k0 kl kp=>by
 by_cases e:k=i
 ·subst e
  rcases hs with h | h
  ·omega
  ·exact h
 ·exact h.1 k k0 kl e kp,h.2⟩
theorem c2A {l:List IT} {i:Nat} (h:UH l i) (hs:i=0\/b2G l i):a7p l:=fun k k0 kl=>by
 by_cases e:k=i
 ·subst e
  rcases hs with h | h
  ·omega
  ·exact h
 ·exact h.1 k k0 kl e
theorem a7p.dh {l:List IT} (h:a7p l) {i:Nat} (hi:i < l.length):DH l i:=⟨fun k k0 kl _=>h k k0 kl,fun i0 c c0 cl cp=>by
 have h1:=h c c0 cl
 have h2:=h i i0 hi
 unfold b2G at h1 h2
 rw [cp] at h1
 exact Bef.ntrans h1 h2⟩
theorem c0D {l:List IT} {i b:Nat} (hb:b < l.length) (hb0:0 < b) (hp:(b - 1) / 2=i) (h:DH l i) (hlt:Bef (nth l b) (nth l i)) (hbest:∀ c,0 < c->c < l.length->(c - 1) / 2=i->¬ Bef (nth l c) (nth l b)):DH (sw l i b) b:=by
 have hib:i < b:=by omega
 have hil:i < l.length:=by omega
 refine⟨fun k k0 kl kp=>?_,fun _ c c0 cl cp=>?_⟩
 ·rw [a8a] at kl
  unfold b2G
  rw [a4o hil hb k,a4o hil hb ((k - 1) / 2),if_neg kp]
  by_cases h1:k=b
  ·rw [if_pos h1,if_pos (by rw [h1];exact hp)]
   exact hlt.asymm
  ·rw [if_neg h1]
   by_cases h2:(k - 1) / 2=i
   ·rw [if_pos h2,if_neg (show k ≠ i by omega)]
    exact hbest k k0 kl h2
   ·rw [if_neg h2]
    by_cases h3:k=i
    ·rw [if_pos h3]
     subst h3
     exact h.2 k0 b hb0 hb hp
    ·rw [if_neg h3]
     exact h.1 k k0 kl h2
 ·rw [a8a] at cl
  rw [a4o hil hb c,a4o hil hb ((b - 1) / 2),hp,if_neg (show c ≠ b by omega),if_neg (show c ≠ i by omega),if_neg (show i ≠ b by omega),if_pos rfl]
  have:=h.1 c c0 cl (by omega)
  unfold b2G at this
  rw [cp] at this
  exact this
theorem b3J {l:List IT} {i:Nat} (h:DH l i) (hn:∀ c,0 < c->c < l.length->(c - 1) / 2=i->¬ Bef (nth l c) (nth l i)):a7p l:=fun k k0 kl=>by
 by_cases e:(k - 1) / 2=i
 ·have:=hn k k0 kl e
  unfold b2G
  rw [e];exact this
 ·exact h.1 k k0 kl e
theorem a7p.push {l:List IT} (h:a7p l) (x:IT):AH (l ++ [x]) l.length:=by
 refine⟨fun k k0 kl ki _=>?_,fun _ c _ cl cp=>?_⟩
 ·rw [List.length_append,List.length_singleton] at kl
  unfold b2G
  rw [b2w x (show k < l.length by omega),b2w x (show(k - 1) / 2 < l.length by omega)]
  exact h k k0 (by omega)
 ·rw [List.length_append,List.length_singleton] at cl
  omega
theorem a7p.take {l:List IT} (h:a7p l) (n:Nat):a7p (l.take n):=fun k k0 kl=>by
 rw [List.length_take] at kl
 unfold b2G
 rw [a79 (by omega),a79 (by omega)]
 exact h k k0 (by omega)
theorem a7p.cut {l:List IT} (h:a7p l) {i n:Nat} (hn:l.length=n + 1) (hi:i < n):AH ((sw l i n).take n) i:=by
 have hil:i < l.length:=by omega
 have hnl:n < l.length:=by omega
 have hlen:((sw l i n).take n).length=n:=by rw [List.length_take,a8a];omega
 have hat:∀ m,m < n->nth ((sw l i n).take n) m=if m=i then nth l n else nth l m:=fun m hm=>by
  rw [a79 hm,a4o hil hnl,if_neg (by omega)]
 refine⟨fun k k0 kl ki kp=>?_,fun i0 c c0 cl cp=>?_⟩
 ·rw [hlen] at kl
  unfold b2G
  rw [hat k kl,hat _ (by omega),if_neg ki,if_neg kp]
  exact h k k0 (by omega)
 ·rw [hlen] at cl
  rw [hat c cl,hat _ (by omega),if_neg (by omega),if_neg (by omega)]
  have h1:=h c c0 (by omega)
  have h2:=h i i0 hil
  unfold b2G at h1 h2
  rw [cp] at h1
  exact Bef.ntrans h1 h2
theorem c2B {l:List IT} {i n:Nat} (hn:l.length=n + 1) (hi:i<=n):(nth l i :: (sw l i n).take n).Perm l:=by
 have hil:i < l.length:=by omega
 have hnl:n < l.length:=by omega
 have h1:=b2x hil hnl
 have hsl:n < (sw l i n).length:=by rw [a8a];omega
 have e:sw l i n=(sw l i n).take n ++ [nth l i]:=by
  have h2:(sw l i n).take (n + 1)=sw l i n:=List.take_of_length_le (by rw [a8a];omega)
  have h3:(sw l i n)[n]=nth l i:=by rw [<-a78 hsl,a4o hil hnl,if_pos rfl]
  rw [M2 hsl,h3] at h2
  exact h2.symm
 refine List.Perm.trans ?_ h1
 conv=>rhs;rw [e]
 exact(List.perm_append_comm (l₁:=[nth l i]))
section
variable {p:List (Int × Int)}
theorem b2y {k v k' v':Int} (hnd:(D1 p).Nodup):(k',v') ∈ a1V J8 k v p ↔ (k'=k/\v'=v)\/(k' ≠ k/\(k',v') ∈ p):=by
 by_cases hk:k ∈ D1 p
 ·obtain⟨v0,hv⟩:=E8.1 hk
  rw [(b2m Q4 hnd hv).mem_iff,List.mem_cons]
  have hd:=a3g Q4 hnd hv
  have hnd2:(D1 ((k,v0) :: a5u J8 k p)).Nodup:=(H5 hd).nodup_iff.2 hnd
  rw [a0R,List.nodup_cons] at hnd2
  have hm:=hd.mem_iff (a:=(k',v'))
  rw [List.mem_cons] at hm
  constructor
  ·rintro(h | h)
   ·injection h with h1 h2;exact .inl ⟨h1,h2⟩
   ·right
    exact⟨fun e=>by subst e;exact hnd2.1 (E8.2 ⟨_,h⟩),hm.1 (.inr h)⟩
  ·rintro(⟨rfl,rfl⟩ | ⟨h1,h2⟩)
   ·exact .inl rfl
   ·rcases hm.2 h2 with h | h
    ·injection h with h _;exact(h1 h).elim
    ·exact .inr h
 ·rw [a71 Q4 hk,List.mem_append,List.mem_singleton]
  constructor
  ·rintro(h | h)
   ·exact .inr ⟨fun e=>hk (by rw [<-e];exact E8.2 ⟨_,h⟩),h⟩
   ·injection h with h1 h2;exact .inl ⟨h1,h2⟩
  ·rintro(⟨rfl,rfl⟩ | ⟨_,h2⟩)
   ·exact .inr rfl
   ·exact .inl h2
theorem a1T {k v:Int} (hnd:(D1 p).Nodup):(D1 (a1V J8 k v p)).Nodup:=by
 by_cases hk:k ∈ D1 p
 ·obtain⟨v0,hv⟩:=E8.1 hk
  have hd:=a3g Q4 hnd hv
  have hnd2:(D1 ((k,v0) :: a5u J8 k p)).Nodup:=(H5 hd).nodup_iff.2 hnd
  exact(H5 (b2m Q4 hnd hv)).nodup_iff.2 hnd2
 ·rw [a71 Q4 hk]
  have:D1 (p ++ [(k,v)])=D1 p ++ [k]:=by simp [D1]
  rw [this,List.nodup_append]
  exact⟨hnd,by simp,fun a ha b hb e=>hk (by rw [List.mem_singleton.1 hb] at e;rw [<-e];exact ha)⟩
theorem c2C {k k' v':Int} (hnd:(D1 p).Nodup):(k',v') ∈ a5u J8 k p ↔ k' ≠ k/\(k',v') ∈ p:=by
 by_cases hk:k ∈ D1 p
 ·obtain⟨v0,hv⟩:=E8.1 hk
  have hd:=a3g Q4 hnd hv
  have hnd2:(D1 ((k,v0) :: a5u J8 k p)).Nodup:=(H5 hd).nodup_iff.2 hnd
  rw [a0R,List.nodup_cons] at hnd2
  have hm:=hd.mem_iff (a:=(k',v'))
  rw [List.mem_cons] at hm
  constructor
  ·intro h
   exact⟨fun e=>by subst e;exact hnd2.1 (E8.2 ⟨_,h⟩),hm.1 (.inr h)⟩
  ·rintro⟨h1,h2⟩
   rcases hm.2 h2 with h | h
   ·injection h with h _;exact(h1 h).elim
   ·exact h
 ·rw [a6b Q4 hk]
  exact⟨fun h=>⟨fun e=>hk (by rw [<-e];exact E8.2 ⟨_,h⟩),h⟩,fun h=>h.2⟩
theorem b7M {k:Int} (hnd:(D1 p).Nodup):(D1 (a5u J8 k p)).Nodup:=by
 by_cases hk:k ∈ D1 p
 ·obtain⟨v0,hv⟩:=E8.1 hk
  have hnd2:(D1 ((k,v0) :: a5u J8 k p)).Nodup:=(H5 (a3g Q4 hnd hv)).nodup_iff.2 hnd
  rw [a0R,List.nodup_cons] at hnd2
  exact hnd2.2
 ·rw [a6b Q4 hk];exact hnd
def Pl (l:List IT) (p:List (Int × Int)):Prop:=(D1 p).Nodup/\∀ k v,(k,v) ∈ p ↔ ∃ m:Nat,m < l.length/\v=(m:Int)/\(nth l m).1=k
def Ids (l:List IT):Prop:=(l.map fun x=>x.1).Nodup
theorem Ids.perm {l l':List IT} (h:Ids l) (hp:l'.Perm l):Ids l':=(hp.map _).nodup_iff.2 h
theorem Ids.inj {l:List IT} (h:Ids l) {m n:Nat} (hm:m < l.length) (hn:n < l.length) (e:(nth l m).1=(nth l n).1):m=n:=by
 rw [a78 hm,a78 hn] at e
 have h1:(l.map fun x=>x.1)[m]'(by simpa using hm)=(l.map fun x=>x.1)[n]'(by simpa using hn):=by simpa using e
 exact(List.getElem_inj h).1 h1
def pSw (l':List IT) (p:List (Int × Int)) (i j:Nat):List (Int × Int):=
 let p1:=a1V J8 (nth l' i).1 (i:Int) (a1V J8 (nth l' i).1 (W4 J8 (nth l' i).1 (0:Int) p) p)
 a1V J8 (nth l' j).1 (j:Int) (a1V J8 (nth l' j).1 (W4 J8 (nth l' j).1 (0:Int) p1) p1)
theorem b3K {k v w k' v':Int} (hnd:(D1 p).Nodup):(k',v') ∈ a1V J8 k v (a1V J8 k w p) ↔ (k'=k/\v'=v)\/(k' ≠ k/\(k',v') ∈ p):=by
 rw [b2y (a1T hnd),b2y hnd]
 constructor
 ·rintro(h | ⟨h1,⟨h2,_⟩ | ⟨_,h3⟩⟩)
  ·exact .inl h
  ·exact(h1 h2).elim
  ·exact .inr ⟨h1,h3⟩
 ·rintro(h | ⟨h1,h2⟩)
  ·exact .inl h
  ·exact .inr ⟨h1,.inr ⟨h1,h2⟩⟩
theorem Pl.swap {l:List IT} (h:Pl l p) (hd:Ids l) {i j:Nat} (hi:i < l.length) (hj:j < l.length):Pl (sw l i j) (pSw (sw l i j) p i j):=by
 have hnd:=h.1
 have e2:nth (sw l i j) j=nth l i:=by rw [a4o hi hj,if_pos rfl]
 have e1:nth (sw l i j) i=nth l j:=by
  rw [a4o hi hj]
  by_cases e:i=j
  ·rw [if_pos e,e]
  ·rw [if_neg e,if_pos rfl]
 unfold pSw
 refine⟨a1T (a1T (a1T (a1T hnd))),fun k v=>?_⟩
 rw [b3K (a1T (a1T hnd)),b3K hnd,e1,e2,h.2,a8a]
 constructor
 ·rintro(⟨rfl,rfl⟩ | ⟨h1,⟨rfl,rfl⟩ | ⟨h2,m,hm,rfl,rfl⟩⟩)
  ·exact⟨j,hj,rfl,by rw [e2]⟩
  ·exact⟨i,hi,rfl,by rw [e1]⟩
  ·have n1:m ≠ i:=fun e=>h1 (by rw [e])
   have n2:m ≠ j:=fun e=>h2 (by rw [e])
   exact⟨m,hm,rfl,by rw [a4o hi hj,if_neg n2,if_neg n1]⟩
 ·rintro⟨m,hm,rfl,rfl⟩
  by_cases n2:m=j
  ·subst n2;exact .inl ⟨by rw [e2],rfl⟩
  ·right
   by_cases n1:m=i
   ·subst n1
    rw [e1]
    exact⟨fun e=>n2 (hd.inj hj hi e).symm,.inl ⟨rfl,rfl⟩⟩
   ·rw [a4o hi hj,if_neg n2,if_neg n1]
    exact⟨fun e=>n1 (hd.inj hm hi e),.inr ⟨fun e=>n2 (hd.inj hm hj e),m,hm,rfl,rfl⟩⟩
theorem Pl.push {l:List IT} (h:Pl l p) {x:IT} (hx:∀ m,m < l.length->(nth l m).1 ≠ x.1):Pl (l ++ [x]) (a1V J8 x.1 (l.length:Int) p):=by
 refine⟨a1T h.1,fun k v=>?_⟩
 rw [b2y h.1,h.2,List.length_append,List.length_singleton]
 constructor
 ·rintro(⟨rfl,rfl⟩ | ⟨_,m,hm,rfl,rfl⟩)
  ·exact⟨l.length,by omega,rfl,by rw [c0C]⟩
  ·exact⟨m,by omega,rfl,by rw [b2w x hm]⟩
 ·rintro⟨m,hm,rfl,rfl⟩
  by_cases e:m=l.length
  ·left;rw [e,c0C];exact⟨rfl,rfl⟩
  ·right
   have hm':m < l.length:=by omega
   rw [b2w x hm']
   exact⟨hx m hm',m,hm',rfl,rfl⟩
theorem Pl.pop {l:List IT} (h:Pl l p) (hd:Ids l) {n:Nat} (hn:l.length=n + 1):Pl (l.take n) (a5u J8 (nth l n).1 p):=by
 refine⟨b7M h.1,fun k v=>?_⟩
 have hlen:(l.take n).length=n:=by rw [List.length_take];omega
 rw [c2C h.1,h.2,hlen]
 constructor
 ·rintro⟨h1,m,hm,rfl,rfl⟩
  have:m ≠ n:=fun e=>h1 (by rw [e])
  exact⟨m,by omega,rfl,by rw [a79 (by omega)]⟩
 ·rintro⟨m,hm,rfl,rfl⟩
  rw [a79 hm]
  exact⟨fun e=>by have:=hd.inj (show m < l.length by omega) (show n < l.length by omega) e;omega,m,by omega,rfl,rfl⟩
theorem Pl.has {l:List IT} (h:Pl l p) (k:Int):(a1r J8 k p).isSome=decide (k ∈ l.map fun x=>x.1):=by
 have h1:=a1J Q4 k p
 have h2:k ∈ D1 p ↔ k ∈ l.map fun x=>x.1:=by
  rw [E8,List.mem_map]
  constructor
  ·rintro⟨v,hv⟩
   obtain⟨m,hm,_,e⟩:=(h.2 k v).1 hv
   exact⟨_,c0A hm,e⟩
  ·rintro⟨x,hx,e⟩
   obtain⟨m,hm,rfl⟩:=List.getElem_of_mem hx
   exact⟨m,(h.2 k m).2 ⟨m,hm,rfl,by rw [a78 hm];exact e⟩⟩
 cases hb:(a1r J8 k p).isSome with
 | true=>exact(decide_eq_true (h2.1 (h1.1 hb))).symm
 | false=>exact(decide_eq_false (fun hm=>by rw [h1.2 (h2.2 hm)] at hb;cases hb)).symm
theorem Pl.get {l:List IT} (h:Pl l p) {m:Nat} (hm:m < l.length):W4 J8 (nth l m).1 (0:Int) p=(m:Int):=a5q Q4 h.1 ((h.2 _ _).2 ⟨m,hm,rfl,rfl⟩)
end
end Go.Proofs.YtacnfjjkhpkloaaGreat.Am
namespace Go.Proofs.YtacnfjjkhpkloaaGreat.Am
open Go
end Go.Proofs.YtacnfjjkhpkloaaGreat.Am
