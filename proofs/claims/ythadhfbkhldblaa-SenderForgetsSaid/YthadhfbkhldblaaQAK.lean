/- Texts laid together: PLoop, PMap, Bl, PWt. No conditions. -/
import Derived.Test.YthadhfbkhldblaaKD
import Derived.Test.YthadhfbkhldblaaQAB
namespace Go.Proofs.Ythadhfbkhldblaa.Am
open Go
theorem a2g {S R:Type} {G:S->Option (S ⊕ R)} {p:R->Prop} (inv:Nat->S->Prop) (step:∀ n x,inv n x->Ok (G x) (Nxt p fun z=>∃ m,m < n/\inv m z)) :
  ∀ {n:Nat} {x:S},inv n x->n < 1180591620717411303424->Ok (W5 G x) p:=by
 have key:∀ (f n:Nat) (x:S),inv n x->n < f->Ok (b5D f G x) p:=by
  intro f
  induction f with
  | zero=>intro n x _ h;omega
  | succ f ih=>
   intro n x hi hm
   obtain⟨y,hy,h⟩:=step n x hi
   unfold b5D
   rw [hy]
   cases y with
   | inl z=>
    obtain⟨m,h1,h2⟩:=h
    exact ih m z h2 (by omega)
   | inr r=>exact⟨r,rfl,h⟩
 intro n x hi hm
 unfold W5
 rw [b46]
 exact key _ n x hi hm
theorem O0 {α β S R:Type} {G:S->Option (S ⊕ R)} {p:R->Prop} (l:List α) (st:Nat->β->S) (inv:Nat->β->Prop)
  (step:∀ i b,(h:i < l.length)->inv i b->Ok (G (st i b)) (Nxt p fun z=>∃ b',z=st (i + 1) b'/\inv (i + 1) b'))
  (stop:∀ b,inv l.length b->Ok (G (st l.length b)) (Nxt p fun _=>False)) {b0:β} (h0:inv 0 b0) (hl:l.length < 1180591620717411303424):Ok (W5 G (st 0 b0)) p:=by
 refine a2g (fun n x=>∃ i b,i + n=l.length/\x=st i b/\inv i b) ?_ ⟨0,b0,by omega,rfl,h0⟩ hl
 rintro n x ⟨i,b,hn,rfl,hi⟩
 by_cases h:i < l.length
 ·refine(step i b h hi).mono fun r hr=>?_
  cases r with
  | inl z=>
   obtain⟨b',h1,h2⟩:=hr
   exact⟨n - 1,by omega,i + 1,b',by omega,h1,h2⟩
  | inr r=>exact hr
 ·have e:i=l.length:=by omega
  subst e
  refine(stop b hi).mono fun r hr=>?_
  cases r with
  | inl z=>exact hr.elim
  | inr r=>exact hr
theorem a2h {α:Type} (x y:Option α):sel true x y=x:=rfl
theorem a0n {α:Type} (x y:Option α):sel false x y=y:=rfl
theorem a0V {α:Type} (x:Option α):chk true x=x:=rfl
theorem V6 {α:Type} {l:List α} {i:Nat} (h:i < l.length) (d:α):l.getD i d=l[i]:=by
 rw [List.getD_eq_getElem?_getD,List.getElem?_eq_getElem h];rfl
theorem X2 {α:Type} {l:List α} {i:Nat} (h:i < l.length):l.take (i + 1)=l.take i ++ [l[i]]:=List.take_succ_eq_append_getElem h
theorem S9 {i:Nat} (h:i < 9223372036854775807):I9 ((i:Int) + 1)=((i + 1:Nat):Int):=by
 rw [Y3] <;> omega
end Go.Proofs.Ythadhfbkhldblaa.Am
namespace Go.Proofs.Ythadhfbkhldblaa.Am
open Go
def a1O {α:Type} (eq:α->α->Bool):Prop:=∀ a b,eq a b=true ↔ a=b
theorem W9:a1O A8:=fun a b=>by simp [A8]
section
variable {α β:Type} {eq:α->α->Bool}
theorem a0A (p:α × β) (l:List (α × β)):D2 (p :: l)=p.1 :: D2 l:=rfl
theorem a4R (l:List (α × β)):(D2 l).length=l.length:=List.length_map ..
theorem a3Y {l l':List (α × β)} (h:l.Perm l'):(D2 l).Perm (D2 l'):=h.map _
theorem L6 {k:α} {l:List (α × β)}:k ∈ D2 l ↔ ∃ v,(k,v) ∈ l:=by
 unfold D2
 rw [List.mem_map]
 exact⟨fun⟨p,h,e⟩=>⟨p.2,by rw [<-e];exact h⟩,fun⟨v,h⟩=>⟨_,h,rfl⟩⟩
theorem a1P (he:a1O eq) (k:α):∀ l:List (α × β),(X6 eq k l).isSome=true ↔ k ∈ D2 l
 | []=>by simp [X6,D2]
 | p :: l=>by
  rw [a0A,List.mem_cons,<-a1P he k l,<-he]
  show(if eq k p.1=true then some 0 else(X6 eq k l).map (· + 1)).isSome=true ↔ _
  by_cases h:eq k p.1=true <;> simp [h]
theorem a3Z (he:a1O eq) {k:α} {l:List (α × β)} (h:k ∉ D2 l):X6 eq k l=none:=by
 cases hm:X6 eq k l with
 | none=>rfl
 | some i=>exact(h ((a1P he k l).1 (by rw [hm];rfl))).elim
theorem a2i (he:a1O eq) {k:α} {d:β} {l:List (α × β)} (h:k ∉ D2 l):M8 eq k d l=d:=by
 unfold M8;rw [a3Z he h];rfl
theorem b3E (he:a1O eq) {k:α} {v:β} {l:List (α × β)} (h:k ∉ D2 l):a0K eq k v l=l ++ [(k,v)]:=by
 unfold a0K;rw [a3Z he h]
theorem a6H (he:a1O eq) {k:α} {l:List (α × β)} (h:k ∉ D2 l):a39 eq k l=l:=by
 unfold a39;rw [a3Z he h]
theorem a3d (he:a1O eq) {k:α} {v:β}:∀ {l:List (α × β)},(D2 l).Nodup->(k,v) ∈ l->∃ i,X6 eq k l=some i/\l[i]?=some (k,v)
 | p :: l,hnd,hm=>by
  rw [a0A,List.nodup_cons] at hnd
  unfold X6
  rcases List.mem_cons.1 hm with e | hm
  ·subst e
   exact⟨0,by simp [(he k k).2 rfl],rfl⟩
  ·have hne:¬ eq k p.1=true:=fun e=>hnd.1 (by rw [<-(he _ _).1 e];exact L6.2 ⟨v,hm⟩)
   obtain⟨i,h1,h2⟩:=a3d he hnd.2 hm
   exact⟨i + 1,by rw [if_neg hne,h1];rfl,by simpa using h2⟩
theorem a5R (he:a1O eq) {k:α} {v d:β} {l:List (α × β)} (hnd:(D2 l).Nodup) (hm:(k,v) ∈ l):M8 eq k d l=v:=by
 obtain⟨i,h1,h2⟩:=a3d he hnd hm
 unfold M8
 rw [h1,Option.bind_some,h2];rfl
theorem a90 {γ:Type} {l:List γ} {i:Nat} (h:i < l.length):(l[i] :: l.eraseIdx i).Perm l:=by
 rw [List.eraseIdx_eq_take_drop_succ]
 refine List.perm_middle.symm.trans ?_
 rw [List.getElem_cons_drop,List.take_append_drop]
theorem b3F {γ:Type} {l:List γ} {i:Nat} (h:i < l.length) (a:γ):(l.set i a).Perm (a :: l.eraseIdx i):=by
 rw [List.eraseIdx_eq_take_drop_succ,List.set_eq_take_append_cons_drop,if_pos h]
 exact List.perm_middle
theorem b2d (he:a1O eq) {k:α} {v:β} {l:List (α × β)} (hnd:(D2 l).Nodup) (hm:(k,v) ∈ l):((k,v) :: a39 eq k l).Perm l:=by
 obtain⟨i,h1,h2⟩:=a3d he hnd hm
 unfold a39
 rw [h1]
 obtain⟨h3,h4⟩:=List.getElem?_eq_some_iff.1 h2
 have:=a90 h3
 rw [h4] at this
 exact this
theorem b3G (he:a1O eq) {k:α} {v v0:β} {l:List (α × β)} (hnd:(D2 l).Nodup) (hm:(k,v0) ∈ l):(a0K eq k v l).Perm ((k,v) :: a39 eq k l):=by
 obtain⟨i,h1,h2⟩:=a3d he hnd hm
 unfold a0K a39
 rw [h1]
 obtain⟨h3,_⟩:=List.getElem?_eq_some_iff.1 h2
 exact b3F h3 _
def Pre (P:α->Bool) (m:List α):Prop:=m.Pairwise fun a b=>P b=true->P a=true
theorem b3H {P:α->Bool} {m:List α} (h:∀ x ∈ m,P x=false):m.countP P=0/\m.filter P=[]/\m.filter (fun x=> !P x)=m:=by
 refine⟨List.countP_eq_zero.2 fun x hx=>by rw [h x hx];simp,List.filter_eq_nil_iff.2 fun x hx=>by rw [h x hx];simp,List.filter_eq_self.2 fun x hx=>by rw [h x hx];rfl⟩
theorem a1b {P:α->Bool}:∀ {m:List α},Pre P m->m.take (m.countP P)=m.filter P/\m.drop (m.countP P)=m.filter (fun x=> !P x)
 | [],_=>⟨rfl,rfl⟩
 | x :: m,h=>by
  unfold Pre at h
  rw [List.pairwise_cons] at h
  cases hx:P x with
  | true=>
   obtain⟨h1,h2⟩:=a1b (m:=m) h.2
   rw [List.countP_cons_of_pos hx,List.take_succ_cons,List.drop_succ_cons,h1,h2,List.filter_cons_of_pos hx,List.filter_cons_of_neg (by simp [hx])]
   exact⟨rfl,rfl⟩
  | false=>
   have hn:∀ y ∈ m,P y=false:=fun y hy=>by
    cases hy':P y with
    | false=>rfl
    | true=>have:=h.1 y hy hy';rw [hx] at this;cases this
   obtain⟨h1,h2,h3⟩:=b3H hn
   rw [List.countP_cons_of_neg (by simp [hx]),h1,List.filter_cons_of_neg (by simp [hx]),h2,List.filter_cons_of_pos (by simp [hx]),h3]
   exact⟨rfl,rfl⟩
theorem a30 {P:α->Bool} {m:List α} (h:Pre P m) {i:Nat} (hi:i < m.length) (hp:P m[i]=true):(m.take (i + 1)).countP P=i + 1:=by
 have hl:(m.take (i + 1)).length=i + 1:=by rw [List.length_take];omega
 rw [<-hl]
 rw [List.countP_eq_length.2]
 ·rw [hl];rw [hl]
 ·intro x hx
  obtain⟨j,hj,rfl⟩:=List.getElem_of_mem hx
  rw [List.getElem_take]
  rw [hl] at hj
  rcases Nat.lt_or_ge j i with hlt | hge
  ·exact List.pairwise_iff_getElem.1 h j i (by omega) hi hlt hp
  ·have:j=i:=by omega
   subst this;exact hp
theorem a4S {P:α->Bool} {m:List α} {i:Nat} (hi:i < m.length) (hp:P m[i]=false):(m.take (i + 1)).countP P=(m.take i).countP P:=by
 rw [X2 hi,List.countP_append]
 simp [hp]
theorem b2e (P:α->Bool) (m:List α) (x:α):(m.filter P ++ [x] ++ m.filter (fun y=> !P y)).Perm (x :: m):=by
 refine List.Perm.trans ?_ ((List.filter_append_perm P m).cons x)
 rw [List.append_assoc]
 exact List.perm_middle
end
end Go.Proofs.Ythadhfbkhldblaa.Am
namespace Go.Proofs.Ythadhfbkhldblaa.Am
open Go
theorem T0:∀ (x:List UInt8),Op.bytesLess x x=false
 | []=>rfl
 | a :: x=>by rw [Op.bytesLess,T0 x];simp
theorem a5S (a b:UInt8) (x y:List UInt8):Op.bytesLess (a :: x) (b :: y)=true ↔ a.toNat < b.toNat\/(a.toNat=b.toNat/\Op.bytesLess x y=true):=by
 rw [Op.bytesLess]
 simp only [Bool.or_eq_true,Bool.and_eq_true,decide_eq_true_eq,beq_iff_eq]
 rw [UInt8.lt_iff_toNat_lt,<-UInt8.toNat_inj]
theorem a3e:∀ {x y z:List UInt8},Op.bytesLess x y=true->Op.bytesLess y z=true->Op.bytesLess x z=true
 | x,[],z,h,_=>by cases x <;> cases h
 | x,_ :: _,[],_,h=>by cases h
 | [],_ :: _,_ :: _,_,_=>rfl
 | a :: x,b :: y,c :: z,h,k=>by
  rw [a5S] at h k ⊢
  rcases h with h | ⟨h1,h2⟩ <;> rcases k with k | ⟨k1,k2⟩
  ·left;omega
  ·left;omega
  ·left;omega
  ·right;exact⟨by omega,a3e h2 k2⟩
theorem b4k:∀ (x y:List UInt8),Op.bytesLess x y=true\/x=y\/Op.bytesLess y x=true
 | [],[]=> .inr (.inl rfl)
 | [],_ :: _=> .inl rfl
 | _ :: _,[]=> .inr (.inr rfl)
 | a :: x,b :: y=>by
  rw [a5S,a5S]
  rcases Nat.lt_trichotomy a.toNat b.toNat with h | h | h
  ·exact .inl (.inl h)
  ·rcases b4k x y with k | k | k
   ·exact .inl (.inr ⟨h,k⟩)
   ·exact .inr (.inl (by rw [UInt8.toNat_inj.1 h,k]))
   ·exact .inr (.inr (.inr ⟨h.symm,k⟩))
  ·exact .inr (.inr (.inl h))
end Go.Proofs.Ythadhfbkhldblaa.Am
namespace Go.Proofs.Ythadhfbkhldblaa.Am
open Go
theorem a87 {u:U} {l:List u.den} (h:wfU (.sl u) l):l.length<=maxLen:=h.1
theorem b6K {n:Int} (h:wfU (.int .u64) n):0<=n/\n < 18446744073709551616:=by
 have h':IntKind.u64.min<=n/\n<=IntKind.u64.max:=h
 simp [IntKind.min,IntKind.max,IntKind.signed,IntKind.bits] at h'
 omega
end Go.Proofs.Ythadhfbkhldblaa.Am
