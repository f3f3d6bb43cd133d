/- Texts laid together: PTot, PName, PLedV, PLedF. No conditions. -/
import Derived.Test.YtbipjlehhlkghaaDoorFAll
import Derived.Test.YtbipjlehhlkghaaDoorQAE
namespace Go.Proofs.YtbipjlehhlkghaaDoor.Am
open Go
def okU (n:Int):Prop:=0<=n/\n < 18446744073709551616
def b26 (l:List o3):Int:=(l.map fun a=>a.2.1).sum
def c3l (l:List o3):Prop:=∀ a ∈ l,okU a.2.1
theorem c2m:∀ {l:List Int},(∀ x ∈ l,0<=x)->0<=l.sum
 | [],_=>by simp
 | x :: l,h=>by
  have h1:=h x List.mem_cons_self
  have h2:=c2m (l:=l) fun y hy=>h y (List.mem_cons_of_mem _ hy)
  rw [List.sum_cons];omega
theorem c3m (l:List Int) (i:Nat):l.sum=(l.take i).sum + (l.drop i).sum:=by
 rw [<-List.sum_append,List.take_append_drop]
theorem a6e {l:List Int} (h:∀ x ∈ l,0<=x) (i:Nat):(l.take i).sum<=l.sum:=by
 have h1:=c3m l i
 have h2:=c2m (l:=l.drop i) fun y hy=>h y (List.mem_of_mem_drop hy)
 omega
theorem b5S {l:List Int} {i:Nat} (h:i < l.length):(l.take (i + 1)).sum=(l.take i).sum + l[i]:=by
 rw [W6 h,List.sum_append];simp
def a9M (s:Int):Int × Bool:=if s < 18446744073709551616 then(s,true) else(0,false)
theorem c1k {x y:Int} (hx:0<=x) (hy:0<=y):a0x x y=some (a9M (x + y)):=by
 unfold a0x a9M
 rw [decide_eq_true (⟨hx,hy⟩:0<=x/\0<=y),E5]
 by_cases h:x + y < 18446744073709551616
 ·rw [decide_eq_true h,if_pos h];rfl
 ·rw [decide_eq_false h,if_neg h];rfl
theorem b9n {x y:Int} (hx:okU x) (hy:okU y):T7 x y=some (a9M (x + y)):=by
 unfold T7 a9M
 unfold okU at hx hy
 rw [Q0 (n:=18446744073709551615 - y) (by omega) (by omega)]
 by_cases h:x + y < 18446744073709551616
 ·rw [decide_eq_false (by omega),C8,if_pos h,Q0 (by omega) (by omega)]
 ·rw [decide_eq_true (by omega),D6,if_neg h]
theorem b5T {l:List Int} (h:∀ x ∈ l,okU x) (hl:l.length<=5000000000000):a2z l=some (a9M l.sum):=by
 have hnn:∀ x ∈ l,0<=x:=fun x hx=>(h x hx).1
 rw [<-M9]
 unfold a2z a4F
 refine I8 l (fun i (b:Int)=>(b,l,((l.length:Nat):Int),((i:Nat):Int))) (fun i b=>b=(l.take i).sum/\okU b) (fun i b hi hv=>?_) (fun b hv=>?_) (b0:=0) ⟨by simp,by unfold okU;omega⟩ (by omega)
 ·obtain⟨hb,hb1,hb2⟩:=hv
  have h1:=h l[i] (List.getElem_mem hi)
  have h2:=a6e hnn (i + 1)
  have h3:=b5S hi
  have h4:=h1.1
  unfold a1n
  dsimp only
  rw [decide_eq_true (by omega:(i:Int) < ((l.length:Nat):Int)),D6,decide_eq_true (by omega:(0:Int)<=(i:Int)/\(i:Int) < ((l.length:Nat):Int)),E5,Int.toNat_natCast,E6 hi,c1k hb1 h1.1,Option.bind_some,H0 (by omega)]
  unfold a9M
  by_cases hs:b + l[i] < 18446744073709551616
  ·rw [if_pos hs]
   simp only [Bool.not_true,C8,A0,A8]
   exact⟨_,rfl,by rw [h3,hb],by unfold okU;omega⟩
  ·rw [if_neg hs]
   simp only [Bool.not_false,D6,A0,A6]
   rw [if_neg (by omega)]
 ·obtain⟨hb,hb1⟩:=hv
  rw [List.take_length] at hb
  unfold a1n
  dsimp only
  rw [decide_eq_false (by omega),C8,A0,A6]
  unfold a9M
  rw [if_pos (by rw [<-hb];exact hb1.2),hb]
theorem c1l {g:o7} (hc:okU g.2) (h:c3l g.1) (hl:g.1.length<=4398046511000):a1o g=some (a9M (g.2 + b26 g.1)):=by
 obtain⟨l,c⟩:=g
 dsimp only at hc h hl ⊢
 rw [<-M9]
 unfold a1o a2U
 dsimp only
 refine I8 l (fun i (b:List Int)=>(l,((l.length:Nat):Int),((i:Nat):Int),b)) (fun i b=>b=c :: (l.take i).map fun a=>a.2.1) (fun i b hi hv=>?_) (fun b hv=>?_) (b0:=[c]) rfl (by omega)
 ·have hbl:b.length=i + 1:=by rw [hv];simp only [List.length_cons,List.length_map,List.length_take];omega
  unfold Z0
  dsimp only
  rw [decide_eq_true (by omega:(i:Int) < ((l.length:Nat):Int)),D6,decide_eq_true (by omega:(0:Int)<=(i:Int)/\(i:Int) < ((l.length:Nat):Int)),E5,decide_eq_true (by rw [hbl];exact⟨by unfold LIM;omega,by unfold LEN;omega⟩),E5,Int.toNat_natCast,E6 hi,A0,A8,H0 (by omega)]
  exact⟨_,rfl,by rw [W6 hi,List.map_append,hv];rfl⟩
 ·rw [List.take_length] at hv
  unfold Z0 a1f
  dsimp only
  rw [decide_eq_false (by omega),C8,b5T (l:=b) (by
   rw [hv]
   intro x hx
   rcases List.mem_cons.1 hx with rfl | hx
   ·exact hc
   ·obtain⟨a,ha,rfl⟩:=List.mem_map.1 hx
    exact h a ha) (by rw [hv];simp only [List.length_cons,List.length_map];omega),Option.bind_some,Option.map_some,A0,A6,hv,List.sum_cons]
  rfl
theorem c3n {g:o7} (hc:okU g.2) (h:c3l g.1) (hl:g.1.length<=4398046511000):S6 g=some (a9M (g.2 + b26 g.1)):=by
 obtain⟨l,c⟩:=g
 dsimp only at hc h hl ⊢
 have hnn:∀ x ∈ (l.map fun a=>a.2.1),0<=x:=fun x hx=>by
  obtain⟨a,ha,rfl⟩:=List.mem_map.1 hx
  exact(h a ha).1
 rw [<-M9]
 unfold S6 a0G
 dsimp only
 refine I8 l (fun i (b:Int)=>(b,l,((l.length:Nat):Int),((i:Nat):Int))) (fun i b=>b=c + b26 (l.take i)/\okU b) (fun i b hi hv=>?_) (fun b hv=>?_) (b0:=c) ⟨by simp [b26],hc⟩ (by omega)
 ·obtain⟨hb,hb1⟩:=hv
  have h1:=h l[i] (List.getElem_mem hi)
  have h2:=a6e hnn (i + 1)
  have h3:b26 (l.take (i + 1))=b26 (l.take i) + l[i].2.1:=by unfold b26;rw [W6 hi,List.map_append,List.sum_append];simp
  have h4:=h1.1
  have h5:b26 (l.take (i + 1))<=b26 l:=by unfold b26;rw [List.map_take];exact h2
  have h6:=hb1.1
  unfold O1
  dsimp only
  rw [decide_eq_true (by omega:(i:Int) < ((l.length:Nat):Int)),D6,decide_eq_true (by omega:(0:Int)<=(i:Int)/\(i:Int) < ((l.length:Nat):Int)),E5,Int.toNat_natCast,E6 hi,b9n hb1 h1,Option.bind_some,H0 (by omega)]
  unfold a9M
  by_cases hs:b + l[i].2.1 < 18446744073709551616
  ·rw [if_pos hs]
   simp only [Bool.not_true,C8,A0,A8]
   exact⟨_,rfl,by rw [h3,hb];omega,by unfold okU;omega⟩
  ·rw [if_neg hs]
   simp only [Bool.not_false,D6,A0,A6]
   rw [if_neg (by omega)]
 ·obtain⟨hb,hb1⟩:=hv
  rw [List.take_length] at hb
  unfold O1
  dsimp only
  rw [decide_eq_false (by omega),C8,A0,A6]
  unfold a9M
  rw [if_pos (by rw [<-hb];exact hb1.2),hb]
end Go.Proofs.YtbipjlehhlkghaaDoor.Am
namespace Go.Proofs.YtbipjlehhlkghaaDoor.Am
open Go
def a4S (x:UInt8):Prop:=(97<=x.toNat/\x.toNat<=122)\/(48<=x.toNat/\x.toNat<=57)\/x.toNat=45
instance (x:UInt8):Decidable (a4S x):=by unfold a4S;infer_instance
def X2 (s:List UInt8):Bool:=s.all (fun x=>decide (a4S x)) && decide (1<=s.length/\s.length<=20)
theorem b27 {s:List UInt8} {i:Nat} (h:i < s.length) (hn:¬ a4S s[i]):X2 s=false:=by
 unfold X2
 have:s.all (fun x=>decide (a4S x))=false:=by
  rw [List.all_eq_false]
  exact⟨s[i],List.getElem_mem h,by simpa using hn⟩
 rw [this];rfl
theorem b0J {s:List UInt8} (h:∀ j (hj:j < s.length),a4S s[j]):X2 s=decide (1<=s.length/\s.length<=20):=by
 unfold X2
 have:s.all (fun x=>decide (a4S x))=true:=by
  rw [List.all_eq_true]
  intro x hx
  obtain⟨j,hj,rfl⟩:=List.mem_iff_getElem.1 hx
  simpa using h j hj
 rw [this];rfl
theorem b9o {s:List UInt8} {i:Nat} (h:i < s.length) (hl:s.length<=1000000000000000):Ok (a0m s ((s.length:Nat):Int) ((i:Nat):Int)) (· =if a4S s[i] then .inl (s,((s.length:Nat):Int),((i + 1:Nat):Int)) else .inr false):=by
 simp only [a0m,B7,C6,A0,C1,decide_eq_true_eq,decide_eq_false_iff_not,Bool.not_eq_true',Bool.not_eq_false',Int.toNat_natCast,E6 h,H0 (i:=i) (by omega)]
 generalize s[i]=x
 have hx:=x.toNat_lt
 refine⟨fun _=>⟨by omega,?_⟩,fun h=>absurd h (by omega)⟩
 repeat' first | apply And.intro | intro _
 all_goals first | (exfalso;omega) | (rw [if_pos (by unfold a4S;omega)]) | (rw [if_neg (by unfold a4S;omega)])
theorem b4A {s:List UInt8} (hl:s.length<=1000000000000000):a1e s=some (X2 s):=by
 rw [<-M9]
 unfold a1e a4E
 refine I8 s (fun i (_:Unit)=>(s,((s.length:Nat):Int),((i:Nat):Int))) (fun i _=>∀ j (hj:j < s.length),j < i->a4S s[j]) (fun i _ hi hv=>?_) (fun _ hv=>?_) (b0:=()) (fun j hj h=>by omega) (by omega)
 ·refine(b9o hi hl).mono fun r hr=>?_
  subst hr
  by_cases hn:a4S s[i]
  ·rw [if_pos hn,A8]
   refine⟨(),rfl,fun j hj hlt=>?_⟩
   by_cases e:j=i
   ·subst e;exact hn
   ·exact hv j hj (by omega)
  ·rw [if_neg hn,A6,b27 hi hn]
 ·rw [b0J (fun j hj=>hv j hj hj)]
  simp only [a0m,a28,B7,C6,A0,C1,A8,A6,decide_eq_true_eq,decide_eq_false_iff_not,Bool.not_eq_true',Bool.not_eq_false',Int.toNat_natCast]
  refine⟨fun h=>absurd h (by omega),fun _=>⟨fun h=>?_,fun h=>?_⟩⟩
  ·rw [decide_eq_decide];omega
  ·symm;rw [decide_eq_false_iff_not];omega
theorem b64 {s:List UInt8} {i:Nat} (h:i < s.length) (hl:s.length<=1000000000000000):Ok (I2 s ((i:Nat):Int)) (· =if a4S s[i] then .inl (s,((i + 1:Nat):Int)) else .inr false):=by
 simp only [I2,B7,C6,A0,C1,decide_eq_true_eq,decide_eq_false_iff_not,Bool.not_eq_true',Bool.not_eq_false',Int.toNat_natCast,E6 h,H0 (i:=i) (by omega)]
 generalize s[i]=x
 have hx:=x.toNat_lt
 refine⟨fun _=>⟨by omega,?_⟩,fun h=>absurd h (by omega)⟩
 repeat' first | apply And.intro | intro _
 all_goals first | (exfalso;omega) | (rw [if_pos (by unfold a4S;omega)]) | (rw [if_neg (by unfold a4S;omega)])
theorem b1N {s:List UInt8} (hl:s.length<=1000000000000000):I3 s=some (X2 s):=by
 rw [<-M9]
 unfold I3 a0k
 refine I8 s (fun i (_:Unit)=>(s,((i:Nat):Int))) (fun i _=>∀ j (hj:j < s.length),j < i->a4S s[j]) (fun i _ hi hv=>?_) (fun _ hv=>?_) (b0:=()) (fun j hj h=>by omega) (by omega)
 ·refine(b64 hi hl).mono fun r hr=>?_
  subst hr
  by_cases hn:a4S s[i]
  ·rw [if_pos hn,A8]
   refine⟨(),rfl,fun j hj hlt=>?_⟩
   by_cases e:j=i
   ·subst e;exact hn
   ·exact hv j hj (by omega)
  ·rw [if_neg hn,A6,b27 hi hn]
 ·rw [b0J (fun j hj=>hv j hj hj)]
  simp only [I2,T4,B7,C6,A0,C1,A8,A6,decide_eq_true_eq,decide_eq_false_iff_not,Bool.not_eq_true',Bool.not_eq_false',Int.toNat_natCast]
  refine⟨fun h=>absurd h (by omega),fun _=>⟨fun h=>?_,fun h=>?_⟩⟩
  ·rw [decide_eq_decide];omega
  ·symm;rw [decide_eq_false_iff_not];omega
end Go.Proofs.YtbipjlehhlkghaaDoor.Am
namespace Go.Proofs.YtbipjlehhlkghaaDoor.Am
open Go
abbrev less (a b:o3):Bool:=Op.bytesLess a.1 b.1
def b0K:Option o3->List o3->Int
 | _,[]=>0
 | p,a :: l=>if X2 a.1=false then 10 else match p with
  | none=>b0K (some a) l
  | some q=>if q.1=a.1 then 8 else if less q a=false then 1 else b0K (some a) l
def b2f (g:o7):Int:=if 256 < g.1.length then 3 else if b0K none g.1=0 then(if(a9M (g.2 + b26 g.1)).2=true then 0 else 6) else b0K none g.1
def c36 (g:o7):Prop:=okU g.2/\c3l g.1/\(∀ a ∈ g.1,a.1.length<=1000000000000000)/\g.1.length<=4398046511000
theorem b0L {α:Type} {l:List α} {i:Nat} (h:i < l.length):l.drop i=l[i] :: l.drop (i + 1):=List.drop_eq_getElem_cons h
theorem a3H {α:Type} {l:List α} {i:Nat} (h:i < l.length):(l.take (i + 1)).getLast?=some l[i]:=by
 rw [W6 h,List.getLast?_append];rfl
theorem b9p {i:Nat} (h0:0 < i) (h:i < 9223372036854775807):B0 ((i:Int) - 1)=((i - 1:Nat):Int):=by
 rw [D9] <;> omega
theorem b5U (p:Option o3) (a:o3) (l:List o3):b0K p (a :: l)=if X2 a.1=false then 10 else match p with
  | none=>b0K (some a) l
  | some q=>if q.1=a.1 then 8 else if less q a=false then 1 else b0K (some a) l:=by rfl
theorem c1m {g:o7} (h:c36 g):Z1 g=some (b2f g):=by
 obtain⟨l,c⟩:=g
 obtain⟨hc,hb,hn,hl⟩:=h
 dsimp only at hc hb hn hl
 rw [<-M9]
 unfold Z1
 dsimp only
 rw [B7]
 refine⟨fun h=>?_,fun h=>?_⟩
 ·have h:=of_decide_eq_true h
  rw [A0];unfold b2f;rw [if_pos (by dsimp only;omega)]
 have h:=of_decide_eq_false h
 have hle:¬ 256 < l.length:=by omega
 have hval:b2f (l,c)=if b0K none l=0 then(if(a9M (c + b26 l)).2=true then 0 else 6) else b0K none l:=by unfold b2f;rw [if_neg hle]
 rw [hval]
 unfold a1v
 refine I8 l (fun i (_:Unit)=>(l,((l.length:Nat):Int),((i:Nat):Int),(l,c))) (fun i _=>b0K none l=b0K (l.take i).getLast? (l.drop i)) (fun i _ hi hv=>?_) (fun _ hv=>?_) (b0:=()) rfl (by omega)
 ·rw [b0L hi,b5U] at hv
  unfold S4
  dsimp only
  rw [decide_eq_true (by omega:(i:Int) < ((l.length:Nat):Int)),D6,decide_eq_true (by omega:(0:Int)<=(i:Int)/\(i:Int) < ((l.length:Nat):Int)),E5,Int.toNat_natCast,E6 hi,b4A (hn _ (List.getElem_mem hi)),Option.bind_some]
  cases hname:X2 l[i].1 with
  | false=>
   rw [if_pos hname] at hv
   rw [Bool.not_false,D6,A0,A6,hv,if_neg (by decide)]
  | true=>
   rw [if_neg (by rw [hname];decide)] at hv
   rw [Bool.not_true,C8]
   rcases Nat.eq_zero_or_pos i with h0 | h0
   ·subst h0
    simp only [List.take_zero,List.getLast?_nil] at hv
    unfold N1
    rw [decide_eq_false (by omega:¬ (0:Int) < ((0:Nat):Int)),C8,C8,C8,A0,A8,H0 (by omega)]
    exact⟨(),rfl,by rw [hv,a3H hi]⟩
   ·have hi':i - 1 < l.length:=by omega
    have hlast:(l.take i).getLast?=some l[i - 1]:=by
     have:=a3H hi'
     rwa [Nat.sub_add_cancel h0] at this
    rw [hlast] at hv
    dsimp only at hv
    unfold N1
    rw [decide_eq_true (by omega:(0:Int) < ((i:Nat):Int)),D6,b9p h0 (by omega),decide_eq_true (by omega:(0:Int)<=((i - 1:Nat):Int)/\((i - 1:Nat):Int) < ((l.length:Nat):Int)),E5,D6,E5,Int.toNat_natCast,E6 hi']
    by_cases e:l[i - 1].1=l[i].1
    ·rw [if_pos e] at hv
     rw [decide_eq_true e,D6,A0,A6,hv,if_neg (by decide)]
    ·rw [if_neg e] at hv
     have ed:decide (l[i - 1].1=l[i].1)=false:=decide_eq_false e
     rw [ed,C8,Bool.or_false]
     cases hls:Op.bytesLess l[i - 1].1 l[i].1 with
     | false=>
      rw [if_pos hls] at hv
      rw [Bool.not_false,D6,A0,A6,hv,if_neg (by decide)]
     | true=>
      rw [if_neg (by show ¬ Op.bytesLess l[i - 1].1 l[i].1=false;rw [hls];decide)] at hv
      rw [Bool.not_true,C8,A0,A8,H0 (by omega)]
      exact⟨(),rfl,by rw [hv,a3H hi]⟩
 ·rw [List.drop_length] at hv
  have hv:b0K none l=0:=hv
  unfold S4 a0d
  dsimp only
  rw [decide_eq_false (by omega),C8,c1l hc hb hl,Option.bind_some,hv,if_pos rfl]
  dsimp only
  cases (a9M (c + b26 l)).2 with
  | true=>rw [if_pos rfl];exact⟨_,rfl,rfl⟩
  | false=>rw [if_neg (by decide)];exact⟨_,rfl,rfl⟩
theorem c3o {g:o7} (h:c36 g):H6 g=some (b2f g):=by
 obtain⟨l,c⟩:=g
 obtain⟨hc,hb,hn,hl⟩:=h
 dsimp only at hc hb hn hl
 rw [<-M9]
 unfold H6
 dsimp only
 rw [B7]
 refine⟨fun h=>?_,fun h=>?_⟩
 ·have h:=of_decide_eq_true h
  rw [A0];unfold b2f;rw [if_pos (by dsimp only;omega)]
 have h:=of_decide_eq_false h
 have hle:¬ 256 < l.length:=by omega
 have hval:b2f (l,c)=if b0K none l=0 then(if(a9M (c + b26 l)).2=true then 0 else 6) else b0K none l:=by unfold b2f;rw [if_neg hle]
 rw [hval]
 unfold Q7
 refine I8 l (fun i (_:Unit)=>(l,((l.length:Nat):Int),((i:Nat):Int),(l,c))) (fun i _=>b0K none l=b0K (l.take i).getLast? (l.drop i)) (fun i _ hi hv=>?_) (fun _ hv=>?_) (b0:=()) rfl (by omega)
 ·rw [b0L hi,b5U] at hv
  unfold F0
  dsimp only
  rw [decide_eq_true (by omega:(i:Int) < ((l.length:Nat):Int)),D6,decide_eq_true (by omega:(0:Int)<=(i:Int)/\(i:Int) < ((l.length:Nat):Int)),E5,Int.toNat_natCast,E6 hi,b1N (hn _ (List.getElem_mem hi)),Option.bind_some]
  cases hname:X2 l[i].1 with
  | false=>
   rw [if_pos hname] at hv
   rw [Bool.not_false,D6,A0,A6,hv,if_neg (by decide)]
  | true=>
   rw [if_neg (by rw [hname];decide)] at hv
   rw [Bool.not_true,C8]
   rcases Nat.eq_zero_or_pos i with h0 | h0
   ·subst h0
    simp only [List.take_zero,List.getLast?_nil] at hv
    unfold D4
    rw [decide_eq_false (by omega:¬ (0:Int) < ((0:Nat):Int)),C8,C8,A0,A8,H0 (by omega)]
    exact⟨(),rfl,by rw [hv,a3H hi]⟩
   ·have hi':i - 1 < l.length:=by omega
    have hlast:(l.take i).getLast?=some l[i - 1]:=by
     have:=a3H hi'
     rwa [Nat.sub_add_cancel h0] at this
    rw [hlast] at hv
    dsimp only at hv
    unfold D4
    rw [decide_eq_true (by omega:(0:Int) < ((i:Nat):Int)),D6,b9p h0 (by omega),decide_eq_true (by omega:(0:Int)<=((i - 1:Nat):Int)/\((i - 1:Nat):Int) < ((l.length:Nat):Int)),E5,D6,E5,Int.toNat_natCast,E6 hi']
    by_cases e:l[i - 1].1=l[i].1
    ·rw [if_pos e] at hv
     rw [decide_eq_true e,D6,A0,A6,hv,if_neg (by decide)]
    ·rw [if_neg e] at hv
     have ed:decide (l[i - 1].1=l[i].1)=false:=decide_eq_false e
     rw [ed,C8,Bool.or_false]
     cases hls:Op.bytesLess l[i - 1].1 l[i].1 with
     | false=>
      rw [if_pos hls] at hv
      rw [Bool.not_false,D6,A0,A6,hv,if_neg (by decide)]
     | true=>
      rw [if_neg (by show ¬ Op.bytesLess l[i - 1].1 l[i].1=false;rw [hls];decide)] at hv
      rw [Bool.not_true,C8,A0,A8,H0 (by omega)]
      exact⟨(),rfl,by rw [hv,a3H hi]⟩
 ·rw [List.drop_length] at hv
  have hv:b0K none l=0:=hv
  unfold F0 J5
  dsimp only
  rw [decide_eq_false (by omega),C8,c3n hc hb hl,Option.bind_some,hv,if_pos rfl]
  dsimp only
  cases (a9M (c + b26 l)).2 with
  | true=>rw [if_pos rfl];exact⟨_,rfl,rfl⟩
  | false=>rw [if_neg (by decide)];exact⟨_,rfl,rfl⟩
end Go.Proofs.YtbipjlehhlkghaaDoor.Am
namespace Go.Proofs.YtbipjlehhlkghaaDoor.Am
open Go
def D3 (l:List o3) (n:List UInt8):Nat:=l.findIdx fun a=>decide (a.1=n)
def C9 (l:List o3) (n:List UInt8):Nat:=l.findIdx fun a=> !Op.bytesLess a.1 n
def c3p (l:List o3) (n:List UInt8):o3 × Bool:=if D3 l n < l.length then(l.getD (D3 l n) o5,true) else(o5,false)
def b7w (l:List o3) (a:o3):List o3:=if D3 l a.1 < l.length then l.set (D3 l a.1) a else l.take (C9 l a.1) ++ a :: l.drop (C9 l a.1)
theorem b5X {α:Type} {l:List α} {p:α->Bool} {i:Nat} (h:i < l.length) (hp:p l[i]=true) (hb:∀ j (hj:j < l.length),j < i->p l[j]=false):l.findIdx p=i:=
 (List.findIdx_eq h).2 ⟨hp,fun j hj=>hb j (by omega) hj⟩
theorem b9r {α:Type} {l:List α} {p:α->Bool} (hb:∀ j (hj:j < l.length),p l[j]=false):l.findIdx p=l.length:=by
 rw [List.findIdx_eq_length]
 intro x hx
 obtain⟨j,hj,rfl⟩:=List.getElem_of_mem hx
 exact hb j hj
theorem a7s {α:Type} {l:List α} {p:α->Bool} {j:Nat} (hj:j < l.length) (h:j < l.findIdx p):p l[j]=false:=by
 have:=List.not_of_lt_findIdx h
 simpa using this
theorem b1O {α:Type} {l:List α} {p:α->Bool} (h:l.findIdx p < l.length):p l[l.findIdx p]=true:=List.findIdx_getElem (w:=h)
theorem b9s {α:Type} (l:List α) (p:α->Bool):l.findIdx p<=l.length:=List.findIdx_le_length
theorem b1P {l:List o3} {n:List UInt8} (hl:l.length<=5000000000000):L4 l n=some (if D3 l n < l.length then((D3 l n:Nat):Int) else -1):=by
 rw [<-M9]
 unfold L4 a0T
 refine I8 l (fun i (_:Unit)=>(n,l,((l.length:Nat):Int),((i:Nat):Int))) (fun i _=>∀ j (hj:j < l.length),j < i->(fun a:o3=>decide (a.1=n)) l[j]=false) (fun i _ hi hv=>?_) (fun _ hv=>?_) (b0:=()) (fun j hj h=>by omega) (by omega)
 ·unfold P3
  dsimp only
  rw [decide_eq_true (by omega:(i:Int) < ((l.length:Nat):Int)),D6,decide_eq_true (by omega:(0:Int)<=(i:Int)/\(i:Int) < ((l.length:Nat):Int)),E5,Int.toNat_natCast,E6 hi]
  cases e:decide (l[i].1=n) with
  | true=>
   rw [D6,A0,A6]
   have:D3 l n=i:=b5X hi e hv
   rw [this,if_pos hi]
  | false=>
   rw [C8,A0,A8,H0 (by omega)]
   refine⟨(),rfl,fun j hj hlt=>?_⟩
   by_cases ej:j=i
   ·subst ej;exact e
   ·exact hv j hj (by omega)
 ·unfold P3
  dsimp only
  have:D3 l n=l.length:=b9r fun j hj=>hv j hj hj
  rw [decide_eq_false (by omega),C8,A0,A6,this,if_neg (by omega)]
theorem b9t {g:o7} {n:List UInt8} (hl:g.1.length<=5000000000000):Q8 g n=some (c3p g.1 n):=by
 unfold Q8 c3p
 rw [b1P hl,Option.bind_some]
 by_cases h:D3 g.1 n < g.1.length
 ·rw [if_pos h,if_pos h,decide_eq_true (by omega),D6,decide_eq_true (by omega:(0:Int)<=((D3 g.1 n:Nat):Int)/\((D3 g.1 n:Nat):Int) < ((g.1.length:Nat):Int)),E5,Int.toNat_natCast]
 ·rw [if_neg h,if_neg h];rfl
theorem c2o {l:List o3} {a:o3} {k:Nat} (hk:k<=l.length) (hl:l.length<=4398046511000):L7 l (k:Int) a=some (l.take k ++ a :: l.drop k):=by
 unfold L7
 have e1:(l.take k).length=k:=by rw [List.length_take];omega
 have e2:(l.take k ++ [a]).length=k + 1:=by rw [List.length_append,e1];rfl
 have e3:(l.drop k).length=l.length - k:=List.length_drop
 rw [Int.toNat_natCast,Int.toNat_natCast,List.take_length,e1,e2,e3,decide_eq_true (by omega),E5,decide_eq_true ⟨by unfold LIM;omega,by unfold LEN;omega⟩,E5,decide_eq_true ⟨by unfold LIM;omega,by unfold LEN;omega⟩,E5,decide_eq_true (by omega),E5,decide_eq_true ⟨by unfold LIM;omega,by unfold LEN;omega⟩,E5,List.append_assoc]
 rfl
theorem b4C {l:List o3} {a:o3} (hl:l.length<=4398046511000):R1 l a=some (b7w l a):=by
 unfold R1 b7w
 rw [b1P (by omega),Option.bind_some]
 by_cases h:D3 l a.1 < l.length
 ·rw [if_pos h,if_pos h,decide_eq_true (by omega),D6,decide_eq_true ⟨by unfold LIM;omega,by unfold LEN;omega⟩,E5,decide_eq_true (by omega:(0:Int)<=((D3 l a.1:Nat):Int)/\((D3 l a.1:Nat):Int) < ((l.length:Nat):Int)),E5,Int.toNat_natCast,decide_eq_true h,E5]
 ·rw [if_neg h,if_neg h,decide_eq_false (by omega),C8]
  rw [<-M9]
  unfold a05
  refine I8 l (fun i (_:Unit)=>(l,((i:Nat):Int),a)) (fun i _=>∀ j (hj:j < l.length),j < i->(fun x:o3=> !Op.bytesLess x.1 a.1) l[j]=false) (fun i _ hi hv=>?_) (fun _ hv=>?_) (b0:=()) (fun j hj h=>by omega) (by omega)
  ·unfold Q9
   dsimp only
   rw [decide_eq_true (by omega:(i:Int) < ((l.length:Nat):Int)),D6,decide_eq_true (by omega:(0:Int)<=(i:Int)/\(i:Int) < ((l.length:Nat):Int)),E5,Int.toNat_natCast,E6 hi]
   cases e:Op.bytesLess l[i].1 a.1 with
   | false=>
    have:C9 l a.1=i:=b5X hi (by rw [e];rfl) hv
    rw [C8,c2o (by omega) hl,Option.map_some,A0,A6,this]
   | true=>
    rw [D6,A0,A8,H0 (by omega)]
    refine⟨(),rfl,fun j hj hlt=>?_⟩
    by_cases ej:j=i
    ·subst ej;rw [e];rfl
    ·exact hv j hj (by omega)
  ·unfold Q9
   dsimp only
   have:C9 l a.1=l.length:=b9r fun j hj=>hv j hj hj
   rw [decide_eq_false (by omega),C8,c2o (by omega) hl,Option.map_some,A0,A6,this]
theorem c1o (a b:List UInt8):S5 a b=some (c2n a b):=by
 have hn:∀ x,Q6 x=some false:=fun x=>by unfold Q6;rw [decide_eq_true rfl];rfl
 unfold S5 c2n
 rw [hn,hn,Option.bind_some,Option.bind_some,C8,C8]
 rcases b5V a b with h | h | h
 ·rw [h,if_pos rfl,D6]
 ·subst h;rw [a02,decide_eq_true rfl];rfl
 ·have e:a ≠ b:=fun e=>by subst e;rw [a02] at h;cases h
  rw [c1n h,h,decide_eq_false e];rfl
def Srt (l:List o3):Prop:=l.Pairwise fun a b=>less a b=true
theorem Srt.lt {l:List o3} (h:Srt l) {i j:Nat} (hi:i < l.length) (hj:j < l.length) (hij:i < j):less l[i] l[j]=true:=List.pairwise_iff_getElem.1 h i j hi hj hij
theorem c7o {x:Nat} (h:x<=9223372036854775807):B0 (A7 (B0 (x:Int)) / 2 ^ 1)=((x / 2:Nat):Int):=by
 rw [D9 (n:=(x:Int)) (by omega) (by omega),Q0 (by omega) (by omega),D9 (by omega) (by omega)]
 omega
end Go.Proofs.YtbipjlehhlkghaaDoor.Am
