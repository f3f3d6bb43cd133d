/- Texts laid together: PTot, PName, PLedV, PLedF. No conditions. -/
import Derived.Test.YtbipjlehhlkghaaGreatDoorFAll
import Derived.Test.YtbipjlehhlkghaaGreatDoorQAE
namespace Go.Proofs.YtbipjlehhlkghaaGreatDoor.Am
open Go
def okU (n:Int):Prop:=0<=n/\n < 18446744073709551616
def a8y (l:List o7):Int:=(l.map fun a=>a.2.1).sum
def b3p (l:List o7):Prop:=∀ a ∈ l,okU a.2.1
theorem b7d:∀ {l:List Int},(∀ x ∈ l,0<=x)->0<=l.sum
 | [],_=>by simp
 | x :: l,h=>by
  have h1:=h x List.mem_cons_self
  have h2:=b7d (l:=l) fun y hy=>h y (List.mem_cons_of_mem _ hy)
  rw [List.sum_cons];omega
theorem d3f (l:List Int) (i:Nat):l.sum=(l.take i).sum + (l.drop i).sum:=by
 rw [<-List.sum_append,List.take_append_drop]
theorem b3q {l:List Int} (h:∀ x ∈ l,0<=x) (i:Nat):(l.take i).sum<=l.sum:=by
 have h1:=d3f l i
 have h2:=b7d (l:=l.drop i) fun y hy=>h y (List.mem_of_mem_drop hy)
 omega
theorem c4j {l:List Int} {i:Nat} (h:i < l.length):(l.take (i + 1)).sum=(l.take i).sum + l[i]:=by
 rw [N0 h,List.sum_append];simp
def b4I (s:Int):Int × Bool:=if s < 18446744073709551616 then(s,true) else(0,false)
theorem d0u {x y:Int} (hx:0<=x) (hy:0<=y):a3q x y=some (b4I (x + y)):=by
 unfold a3q b4I
 rw [decide_eq_true (⟨hx,hy⟩:0<=x/\0<=y),C4]
 by_cases h:x + y < 18446744073709551616
 ·rw [decide_eq_true h,if_pos h];rfl
 ·rw [decide_eq_false h,if_neg h];rfl
theorem c79 {x y:Int} (hx:okU x) (hy:okU y):a13 x y=some (b4I (x + y)):=by
 unfold a13 b4I
 unfold okU at hx hy
 rw [K9 (n:=18446744073709551615 - y) (by omega) (by omega)]
 by_cases h:x + y < 18446744073709551616
 ·rw [decide_eq_false (by omega),C6,if_pos h,K9 (by omega) (by omega)]
 ·rw [decide_eq_true (by omega),E4,if_neg h]
theorem c4k {l:List Int} (h:∀ x ∈ l,okU x) (hl:l.length<=5000000000000):a7Z l=some (b4I l.sum):=by
 have hnn:∀ x ∈ l,0<=x:=fun x hx=>(h x hx).1
 rw [<-L4]
 unfold a7Z b1f
 refine E7 l (fun i (b:Int)=>(b,l,((l.length:Nat):Int),((i:Nat):Int))) (fun i b=>b=(l.take i).sum/\okU b) (fun i b hi hv=>?_) (fun b hv=>?_) (b0:=0) ⟨by simp,by unfold okU;omega⟩ (by omega)
 ·obtain⟨hb,hb1,hb2⟩:=hv
  have h1:=h l[i] (List.getElem_mem hi)
  have h2:=b3q hnn (i + 1)
  have h3:=c4j hi
  have h4:=h1.1
  unfold a6y
  dsimp only
  rw [decide_eq_true (by omega:(i:Int) < ((l.length:Nat):Int)),E4,decide_eq_true (by omega:(0:Int)<=(i:Int)/\(i:Int) < ((l.length:Nat):Int)),C4,Int.toNat_natCast,D8 hi,d0u hb1 h1.1,Option.bind_some,E2 (by omega)]
  unfold b4I
  by_cases hs:b + l[i] < 18446744073709551616
  ·rw [if_pos hs]
   simp only [Bool.not_true,C6,A3,B4]
   exact⟨_,rfl,by rw [h3,hb],by unfold okU;omega⟩
  ·rw [if_neg hs]
   simp only [Bool.not_false,E4,A3,B8]
   rw [if_neg (by omega)]
 ·obtain⟨hb,hb1⟩:=hv
  rw [List.take_length] at hb
  unfold a6y
  dsimp only
  rw [decide_eq_false (by omega),C6,A3,B8]
  unfold b4I
  rw [if_pos (by rw [<-hb];exact hb1.2),hb]
theorem d0v {g:o6} (hc:okU g.2) (h:b3p g.1) (hl:g.1.length<=4398046511000):a6z g=some (b4I (g.2 + a8y g.1)):=by
 obtain⟨l,c⟩:=g
 dsimp only at hc h hl ⊢
 rw [<-L4]
 unfold a6z a8F
 dsimp only
 refine E7 l (fun i (b:List Int)=>(l,((l.length:Nat):Int),((i:Nat):Int),b)) (fun i b=>b=c :: (l.take i).map fun a=>a.2.1) (fun i b hi hv=>?_) (fun b hv=>?_) (b0:=[c]) rfl (by omega)
 ·have hbl:b.length=i + 1:=by rw [hv];simp only [List.length_cons,List.length_map,List.length_take];omega
  unfold a3P
  dsimp only
  rw [decide_eq_true (by omega:(i:Int) < ((l.length:Nat):Int)),E4,decide_eq_true (by omega:(0:Int)<=(i:Int)/\(i:Int) < ((l.length:Nat):Int)),C4,decide_eq_true (by rw [hbl];exact⟨by unfold LIM;omega,by unfold LEN;omega⟩),C4,Int.toNat_natCast,D8 hi,A3,B4,E2 (by omega)]
  exact⟨_,rfl,by rw [N0 hi,List.map_append,hv];rfl⟩
 ·rw [List.take_length] at hv
  unfold a3P a6c
  dsimp only
  rw [decide_eq_false (by omega),C6,c4k (l:=b) (by
   rw [hv]
   intro x hx
   rcases List.mem_cons.1 hx with rfl | hx
   ·exact hc
   ·obtain⟨a,ha,rfl⟩:=List.mem_map.1 hx
    exact h a ha) (by rw [hv];simp only [List.length_cons,List.length_map];omega),Option.bind_some,Option.map_some,A3,B8,hv,List.sum_cons]
  rfl
theorem b9C {g:o6} (hc:okU g.2) (h:b3p g.1) (hl:g.1.length<=4398046511000):N3 g=some (b4I (g.2 + a8y g.1)):=by
 obtain⟨l,c⟩:=g
 dsimp only at hc h hl ⊢
 have hnn:∀ x ∈ (l.map fun a=>a.2.1),0<=x:=fun x hx=>by
  obtain⟨a,ha,rfl⟩:=List.mem_map.1 hx
  exact(h a ha).1
 rw [<-L4]
 unfold N3 a5c
 dsimp only
 refine E7 l (fun i (b:Int)=>(b,l,((l.length:Nat):Int),((i:Nat):Int))) (fun i b=>b=c + a8y (l.take i)/\okU b) (fun i b hi hv=>?_) (fun b hv=>?_) (b0:=c) ⟨by simp [a8y],hc⟩ (by omega)
 ·obtain⟨hb,hb1⟩:=hv
  have h1:=h l[i] (List.getElem_mem hi)
  have h2:=b3q hnn (i + 1)
  have h3:a8y (l.take (i + 1))=a8y (l.take i) + l[i].2.1:=by unfold a8y;rw [N0 hi,List.map_append,List.sum_append];simp
  have h4:=h1.1
  have h5:a8y (l.take (i + 1))<=a8y l:=by unfold a8y;rw [List.map_take];exact h2
  have h6:=hb1.1
  unfold a0c
  dsimp only
  rw [decide_eq_true (by omega:(i:Int) < ((l.length:Nat):Int)),E4,decide_eq_true (by omega:(0:Int)<=(i:Int)/\(i:Int) < ((l.length:Nat):Int)),C4,Int.toNat_natCast,D8 hi,c79 hb1 h1,Option.bind_some,E2 (by omega)]
  unfold b4I
  by_cases hs:b + l[i].2.1 < 18446744073709551616
  ·rw [if_pos hs]
   simp only [Bool.not_true,C6,A3,B4]
   exact⟨_,rfl,by rw [h3,hb];omega,by unfold okU;omega⟩
  ·rw [if_neg hs]
   simp only [Bool.not_false,E4,A3,B8]
   rw [if_neg (by omega)]
 ·obtain⟨hb,hb1⟩:=hv
  rw [List.take_length] at hb
  unfold a0c
  dsimp only
  rw [decide_eq_false (by omega),C6,A3,B8]
  unfold b4I
  rw [if_pos (by rw [<-hb];exact hb1.2),hb]
end Go.Proofs.YtbipjlehhlkghaaGreatDoor.Am
namespace Go.Proofs.YtbipjlehhlkghaaGreatDoor.Am
open Go
def b1t (x:UInt8):Prop:=(97<=x.toNat/\x.toNat<=122)\/(48<=x.toNat/\x.toNat<=57)\/x.toNat=45
instance (x:UInt8):Decidable (b1t x):=by unfold b1t;infer_instance
def T4 (s:List UInt8):Bool:=s.all (fun x=>decide (b1t x)) && decide (1<=s.length/\s.length<=20)
theorem c05 {s:List UInt8} {i:Nat} (h:i < s.length) (hn:¬ b1t s[i]):T4 s=false:=by
 unfold T4
 have:s.all (fun x=>decide (b1t x))=false:=by
  rw [List.all_eq_false]
  exact⟨s[i],List.getElem_mem h,by simpa using hn⟩
 rw [this];rfl
theorem b8w {s:List UInt8} (h:∀ j (hj:j < s.length),b1t s[j]):T4 s=decide (1<=s.length/\s.length<=20):=by
 unfold T4
 have:s.all (fun x=>decide (b1t x))=true:=by
  rw [List.all_eq_true]
  intro x hx
  obtain⟨j,hj,rfl⟩:=List.mem_iff_getElem.1 hx
  simpa using h j hj
 rw [this];rfl
theorem c8a {s:List UInt8} {i:Nat} (h:i < s.length) (hl:s.length<=1000000000000000):Ok (a4v s ((s.length:Nat):Int) ((i:Nat):Int)) (· =if b1t s[i] then .inl (s,((s.length:Nat):Int),((i + 1:Nat):Int)) else .inr false):=by
 simp only [a4v,C0,E5,A3,D5,decide_eq_true_eq,decide_eq_false_iff_not,Bool.not_eq_true',Bool.not_eq_false',Int.toNat_natCast,D8 h,E2 (i:=i) (by omega)]
 generalize s[i]=x
 have hx:=x.toNat_lt
 refine⟨fun _=>⟨by omega,?_⟩,fun h=>absurd h (by omega)⟩
 repeat' first | apply And.intro | intro _
 all_goals first | (exfalso;omega) | (rw [if_pos (by unfold b1t;omega)]) | (rw [if_neg (by unfold b1t;omega)])
theorem c2O {s:List UInt8} (hl:s.length<=1000000000000000):a6b s=some (T4 s):=by
 rw [<-L4]
 unfold a6b b1e
 refine E7 s (fun i (_:Unit)=>(s,((s.length:Nat):Int),((i:Nat):Int))) (fun i _=>∀ j (hj:j < s.length),j < i->b1t s[j]) (fun i _ hi hv=>?_) (fun _ hv=>?_) (b0:=()) (fun j hj h=>by omega) (by omega)
 ·refine(c8a hi hl).mono fun r hr=>?_
  subst hr
  by_cases hn:b1t s[i]
  ·rw [if_pos hn,B4]
   refine⟨(),rfl,fun j hj hlt=>?_⟩
   by_cases e:j=i
   ·subst e;exact hn
   ·exact hv j hj (by omega)
  ·rw [if_neg hn,B8,c05 hi hn]
 ·rw [b8w (fun j hj=>hv j hj hj)]
  simp only [a4v,a81,C0,E5,A3,D5,B4,B8,decide_eq_true_eq,decide_eq_false_iff_not,Bool.not_eq_true',Bool.not_eq_false',Int.toNat_natCast]
  refine⟨fun h=>absurd h (by omega),fun _=>⟨fun h=>?_,fun h=>?_⟩⟩
  ·rw [decide_eq_decide];omega
  ·symm;rw [decide_eq_false_iff_not];omega
theorem c5E {s:List UInt8} {i:Nat} (h:i < s.length) (hl:s.length<=1000000000000000):Ok (O9 s ((i:Nat):Int)) (· =if b1t s[i] then .inl (s,((i + 1:Nat):Int)) else .inr false):=by
 simp only [O9,C0,E5,A3,D5,decide_eq_true_eq,decide_eq_false_iff_not,Bool.not_eq_true',Bool.not_eq_false',Int.toNat_natCast,D8 h,E2 (i:=i) (by omega)]
 generalize s[i]=x
 have hx:=x.toNat_lt
 refine⟨fun _=>⟨by omega,?_⟩,fun h=>absurd h (by omega)⟩
 repeat' first | apply And.intro | intro _
 all_goals first | (exfalso;omega) | (rw [if_pos (by unfold b1t;omega)]) | (rw [if_neg (by unfold b1t;omega)])
theorem b58 {s:List UInt8} (hl:s.length<=1000000000000000):L8 s=some (T4 s):=by
 rw [<-L4]
 unfold L8 a4u
 refine E7 s (fun i (_:Unit)=>(s,((i:Nat):Int))) (fun i _=>∀ j (hj:j < s.length),j < i->b1t s[j]) (fun i _ hi hv=>?_) (fun _ hv=>?_) (b0:=()) (fun j hj h=>by omega) (by omega)
 ·refine(c5E hi hl).mono fun r hr=>?_
  subst hr
  by_cases hn:b1t s[i]
  ·rw [if_pos hn,B4]
   refine⟨(),rfl,fun j hj hlt=>?_⟩
   by_cases e:j=i
   ·subst e;exact hn
   ·exact hv j hj (by omega)
  ·rw [if_neg hn,B8,c05 hi hn]
 ·rw [b8w (fun j hj=>hv j hj hj)]
  simp only [O9,a10,C0,E5,A3,D5,B4,B8,decide_eq_true_eq,decide_eq_false_iff_not,Bool.not_eq_true',Bool.not_eq_false',Int.toNat_natCast]
  refine⟨fun h=>absurd h (by omega),fun _=>⟨fun h=>?_,fun h=>?_⟩⟩
  ·rw [decide_eq_decide];omega
  ·symm;rw [decide_eq_false_iff_not];omega
end Go.Proofs.YtbipjlehhlkghaaGreatDoor.Am
namespace Go.Proofs.YtbipjlehhlkghaaGreatDoor.Am
open Go
abbrev less (a b:o7):Bool:=Op.bytesLess a.1 b.1
def b8x:Option o7->List o7->Int
 | _,[]=>0
 | p,a :: l=>if T4 a.1=false then 10 else match p with
  | none=>b8x (some a) l
  | some q=>if q.1=a.1 then 8 else if less q a=false then 1 else b8x (some a) l
def b9D (g:o6):Int:=if 256 < g.1.length then 3 else if b8x none g.1=0 then(if(b4I (g.2 + a8y g.1)).2=true then 0 else 6) else b8x none g.1
def b4U (g:o6):Prop:=okU g.2/\b3p g.1/\(∀ a ∈ g.1,a.1.length<=1000000000000000)/\g.1.length<=4398046511000
theorem b4V {α:Type} {l:List α} {i:Nat} (h:i < l.length):l.drop i=l[i] :: l.drop (i + 1):=List.drop_eq_getElem_cons h
theorem a9Q {α:Type} {l:List α} {i:Nat} (h:i < l.length):(l.take (i + 1)).getLast?=some l[i]:=by
 rw [N0 h,List.getLast?_append];rfl
theorem b9E {i:Nat} (h0:0 < i) (h:i < 9223372036854775807):A5 ((i:Int) - 1)=((i - 1:Nat):Int):=by
 rw [E0] <;> omega
theorem c4l (p:Option o7) (a:o7) (l:List o7):b8x p (a :: l)=if T4 a.1=false then 10 else match p with
  | none=>b8x (some a) l
  | some q=>if q.1=a.1 then 8 else if less q a=false then 1 else b8x (some a) l:=by rfl
theorem d0w {g:o6} (h:b4U g):a3Q g=some (b9D g):=by
 obtain⟨l,c⟩:=g
 obtain⟨hc,hb,hn,hl⟩:=h
 dsimp only at hc hb hn hl
 rw [<-L4]
 unfold a3Q
 dsimp only
 rw [C0]
 refine⟨fun h=>?_,fun h=>?_⟩
 ·have h:=of_decide_eq_true h
  rw [A3];unfold b9D;rw [if_pos (by dsimp only;omega)]
 have h:=of_decide_eq_false h
 have hle:¬ 256 < l.length:=by omega
 have hval:b9D (l,c)=if b8x none l=0 then(if(b4I (c + a8y l)).2=true then 0 else 6) else b8x none l:=by unfold b9D;rw [if_neg hle]
 rw [hval]
 unfold a6J
 refine E7 l (fun i (_:Unit)=>(l,((l.length:Nat):Int),((i:Nat):Int),(l,c))) (fun i _=>b8x none l=b8x (l.take i).getLast? (l.drop i)) (fun i _ hi hv=>?_) (fun _ hv=>?_) (b0:=()) rfl (by omega)
 ·rw [b4V hi,c4l] at hv
  unfold a1H
  dsimp only
  rw [decide_eq_true (by omega:(i:Int) < ((l.length:Nat):Int)),E4,decide_eq_true (by omega:(0:Int)<=(i:Int)/\(i:Int) < ((l.length:Nat):Int)),C4,Int.toNat_natCast,D8 hi,c2O (hn _ (List.getElem_mem hi)),Option.bind_some]
  cases hname:T4 l[i].1 with
  | false=>
   rw [if_pos hname] at hv
   rw [Bool.not_false,E4,A3,B8,hv,if_neg (by decide)]
  | true=>
   rw [if_neg (by rw [hname];decide)] at hv
   rw [Bool.not_true,C6]
   rcases Nat.eq_zero_or_pos i with h0 | h0
   ·subst h0
    simp only [List.take_zero,List.getLast?_nil] at hv
    unfold X8
    rw [decide_eq_false (by omega:¬ (0:Int) < ((0:Nat):Int)),C6,C6,C6,A3,B4,E2 (by omega)]
    exact⟨(),rfl,by rw [hv,a9Q hi]⟩
   ·have hi':i - 1 < l.length:=by omega
    have hlast:(l.take i).getLast?=some l[i - 1]:=by
     have:=a9Q hi'
     rwa [Nat.sub_add_cancel h0] at this
    rw [hlast] at hv
    dsimp only at hv
    unfold X8
    rw [decide_eq_true (by omega:(0:Int) < ((i:Nat):Int)),E4,b9E h0 (by omega),decide_eq_true (by omega:(0:Int)<=((i - 1:Nat):Int)/\((i - 1:Nat):Int) < ((l.length:Nat):Int)),C4,E4,C4,Int.toNat_natCast,D8 hi']
    by_cases e:l[i - 1].1=l[i].1
    ·rw [if_pos e] at hv
     rw [decide_eq_true e,E4,A3,B8,hv,if_neg (by decide)]
    ·rw [if_neg e] at hv
     have ed:decide (l[i - 1].1=l[i].1)=false:=decide_eq_false e
     rw [ed,C6,Bool.or_false]
     cases hls:Op.bytesLess l[i - 1].1 l[i].1 with
     | false=>
      rw [if_pos hls] at hv
      rw [Bool.not_false,E4,A3,B8,hv,if_neg (by decide)]
     | true=>
      rw [if_neg (by show ¬ Op.bytesLess l[i - 1].1 l[i].1=false;rw [hls];decide)] at hv
      rw [Bool.not_true,C6,A3,B4,E2 (by omega)]
      exact⟨(),rfl,by rw [hv,a9Q hi]⟩
 ·rw [List.drop_length] at hv
  have hv:b8x none l=0:=hv
  unfold a1H a37
  dsimp only
  rw [decide_eq_false (by omega),C6,d0v hc hb hl,Option.bind_some,hv,if_pos rfl]
  dsimp only
  cases (b4I (c + a8y l)).2 with
  | true=>rw [if_pos rfl];exact⟨_,rfl,rfl⟩
  | false=>rw [if_neg (by decide)];exact⟨_,rfl,rfl⟩
theorem c2P {g:o6} (h:b4U g):I4 g=some (b9D g):=by
 obtain⟨l,c⟩:=g
 obtain⟨hc,hb,hn,hl⟩:=h
 dsimp only at hc hb hn hl
 rw [<-L4]
 unfold I4
 dsimp only
 rw [C0]
 refine⟨fun h=>?_,fun h=>?_⟩
 ·have h:=of_decide_eq_true h
  rw [A3];unfold b9D;rw [if_pos (by dsimp only;omega)]
 have h:=of_decide_eq_false h
 have hle:¬ 256 < l.length:=by omega
 have hval:b9D (l,c)=if b8x none l=0 then(if(b4I (c + a8y l)).2=true then 0 else 6) else b8x none l:=by unfold b9D;rw [if_neg hle]
 rw [hval]
 unfold a1f
 refine E7 l (fun i (_:Unit)=>(l,((l.length:Nat):Int),((i:Nat):Int),(l,c))) (fun i _=>b8x none l=b8x (l.take i).getLast? (l.drop i)) (fun i _ hi hv=>?_) (fun _ hv=>?_) (b0:=()) rfl (by omega)
 ·rw [b4V hi,c4l] at hv
  unfold L7
  dsimp only
  rw [decide_eq_true (by omega:(i:Int) < ((l.length:Nat):Int)),E4,decide_eq_true (by omega:(0:Int)<=(i:Int)/\(i:Int) < ((l.length:Nat):Int)),C4,Int.toNat_natCast,D8 hi,b58 (hn _ (List.getElem_mem hi)),Option.bind_some]
  cases hname:T4 l[i].1 with
  | false=>
   rw [if_pos hname] at hv
   rw [Bool.not_false,E4,A3,B8,hv,if_neg (by decide)]
  | true=>
   rw [if_neg (by rw [hname];decide)] at hv
   rw [Bool.not_true,C6]
   rcases Nat.eq_zero_or_pos i with h0 | h0
   ·subst h0
    simp only [List.take_zero,List.getLast?_nil] at hv
    unfold J6
    rw [decide_eq_false (by omega:¬ (0:Int) < ((0:Nat):Int)),C6,C6,A3,B4,E2 (by omega)]
    exact⟨(),rfl,by rw [hv,a9Q hi]⟩
   ·have hi':i - 1 < l.length:=by omega
    have hlast:(l.take i).getLast?=some l[i - 1]:=by
     have:=a9Q hi'
     rwa [Nat.sub_add_cancel h0] at this
    rw [hlast] at hv
    dsimp only at hv
    unfold J6
    rw [decide_eq_true (by omega:(0:Int) < ((i:Nat):Int)),E4,b9E h0 (by omega),decide_eq_true (by omega:(0:Int)<=((i - 1:Nat):Int)/\((i - 1:Nat):Int) < ((l.length:Nat):Int)),C4,E4,C4,Int.toNat_natCast,D8 hi']
    by_cases e:l[i - 1].1=l[i].1
    ·rw [if_pos e] at hv
     rw [decide_eq_true e,E4,A3,B8,hv,if_neg (by decide)]
    ·rw [if_neg e] at hv
     have ed:decide (l[i - 1].1=l[i].1)=false:=decide_eq_false e
     rw [ed,C6,Bool.or_false]
     cases hls:Op.bytesLess l[i - 1].1 l[i].1 with
     | false=>
      rw [if_pos hls] at hv
      rw [Bool.not_false,E4,A3,B8,hv,if_neg (by decide)]
     | true=>
      rw [if_neg (by show ¬ Op.bytesLess l[i - 1].1 l[i].1=false;rw [hls];decide)] at hv
      rw [Bool.not_true,C6,A3,B4,E2 (by omega)]
      exact⟨(),rfl,by rw [hv,a9Q hi]⟩
 ·rw [List.drop_length] at hv
  have hv:b8x none l=0:=hv
  unfold L7 Q9
  dsimp only
  rw [decide_eq_false (by omega),C6,b9C hc hb hl,Option.bind_some,hv,if_pos rfl]
  dsimp only
  cases (b4I (c + a8y l)).2 with
  | true=>rw [if_pos rfl];exact⟨_,rfl,rfl⟩
  | false=>rw [if_neg (by decide)];exact⟨_,rfl,rfl⟩
end Go.Proofs.YtbipjlehhlkghaaGreatDoor.Am
namespace Go.Proofs.YtbipjlehhlkghaaGreatDoor.Am
open Go
def E9 (l:List o7) (n:List UInt8):Nat:=l.findIdx fun a=>decide (a.1=n)
def I1 (l:List o7) (n:List UInt8):Nat:=l.findIdx fun a=> !Op.bytesLess a.1 n
def c06 (l:List o7) (n:List UInt8):o7 × Bool:=if E9 l n < l.length then(l.getD (E9 l n) o9,true) else(o9,false)
def c4m (l:List o7) (a:o7):List o7:=if E9 l a.1 < l.length then l.set (E9 l a.1) a else l.take (I1 l a.1) ++ a :: l.drop (I1 l a.1)
theorem c07 {α:Type} {l:List α} {p:α->Bool} {i:Nat} (h:i < l.length) (hp:p l[i]=true) (hb:∀ j (hj:j < l.length),j < i->p l[j]=false):l.findIdx p=i:=
 (List.findIdx_eq h).2 ⟨hp,fun j hj=>hb j (by omega) hj⟩
theorem c2R {α:Type} {l:List α} {p:α->Bool} (hb:∀ j (hj:j < l.length),p l[j]=false):l.findIdx p=l.length:=by
 rw [List.findIdx_eq_length]
 intro x hx
 obtain⟨j,hj,rfl⟩:=List.getElem_of_mem hx
 exact hb j hj
theorem a9R {α:Type} {l:List α} {p:α->Bool} {j:Nat} (hj:j < l.length) (h:j < l.findIdx p):p l[j]=false:=by
 have:=List.not_of_lt_findIdx h
 simpa using this
theorem b7e {α:Type} {l:List α} {p:α->Bool} (h:l.findIdx p < l.length):p l[l.findIdx p]=true:=List.findIdx_getElem (w:=h)
theorem c8c {α:Type} (l:List α) (p:α->Bool):l.findIdx p<=l.length:=List.findIdx_le_length
theorem b6b {l:List o7} {n:List UInt8} (hl:l.length<=5000000000000):O2 l n=some (if E9 l n < l.length then((E9 l n:Nat):Int) else -1):=by
 rw [<-L4]
 unfold O2 a5v
 refine E7 l (fun i (_:Unit)=>(n,l,((l.length:Nat):Int),((i:Nat):Int))) (fun i _=>∀ j (hj:j < l.length),j < i->(fun a:o7=>decide (a.1=n)) l[j]=false) (fun i _ hi hv=>?_) (fun _ hv=>?_) (b0:=()) (fun j hj h=>by omega) (by omega)
 ·unfold a0M
  dsimp only
  rw [decide_eq_true (by omega:(i:Int) < ((l.length:Nat):Int)),E4,decide_eq_true (by omega:(0:Int)<=(i:Int)/\(i:Int) < ((l.length:Nat):Int)),C4,Int.toNat_natCast,D8 hi]
  cases e:decide (l[i].1=n) with
  | true=>
   rw [E4,A3,B8]
   have:E9 l n=i:=c07 hi e hv
   rw [this,if_pos hi]
  | false=>
   rw [C6,A3,B4,E2 (by omega)]
   refine⟨(),rfl,fun j hj hlt=>?_⟩
   by_cases ej:j=i
   ·subst ej;exact e
   ·exact hv j hj (by omega)
 ·unfold a0M
  dsimp only
  have:E9 l n=l.length:=c2R fun j hj=>hv j hj hj
  rw [decide_eq_false (by omega),C6,A3,B8,this,if_neg (by omega)]
theorem b9F {g:o6} {n:List UInt8} (hl:g.1.length<=5000000000000):Q3 g n=some (c06 g.1 n):=by
 unfold Q3 c06
 rw [b6b hl,Option.bind_some]
 by_cases h:E9 g.1 n < g.1.length
 ·rw [if_pos h,if_pos h,decide_eq_true (by omega),E4,decide_eq_true (by omega:(0:Int)<=((E9 g.1 n:Nat):Int)/\((E9 g.1 n:Nat):Int) < ((g.1.length:Nat):Int)),C4,Int.toNat_natCast]
 ·rw [if_neg h,if_neg h];rfl
theorem d13 {l:List o7} {a:o7} {k:Nat} (hk:k<=l.length) (hl:l.length<=4398046511000):U5 l (k:Int) a=some (l.take k ++ a :: l.drop k):=by
 unfold U5
 have e1:(l.take k).length=k:=by rw [List.length_take];omega
 have e2:(l.take k ++ [a]).length=k + 1:=by rw [List.length_append,e1];rfl
 have e3:(l.drop k).length=l.length - k:=List.length_drop
 rw [Int.toNat_natCast,Int.toNat_natCast,List.take_length,e1,e2,e3,decide_eq_true (by omega),C4,decide_eq_true ⟨by unfold LIM;omega,by unfold LEN;omega⟩,C4,decide_eq_true ⟨by unfold LIM;omega,by unfold LEN;omega⟩,C4,decide_eq_true (by omega),C4,decide_eq_true ⟨by unfold LIM;omega,by unfold LEN;omega⟩,C4,List.append_assoc]
 rfl
theorem b9G {l:List o7} {a:o7} (hl:l.length<=4398046511000):V8 l a=some (c4m l a):=by
 unfold V8 c4m
 rw [b6b (by omega),Option.bind_some]
 by_cases h:E9 l a.1 < l.length
 ·rw [if_pos h,if_pos h,decide_eq_true (by omega),E4,decide_eq_true ⟨by unfold LIM;omega,by unfold LEN;omega⟩,C4,decide_eq_true (by omega:(0:Int)<=((E9 l a.1:Nat):Int)/\((E9 l a.1:Nat):Int) < ((l.length:Nat):Int)),C4,Int.toNat_natCast,decide_eq_true h,C4]
 ·rw [if_neg h,if_neg h,decide_eq_false (by omega),C6]
  rw [<-L4]
  unfold a5Z
  refine E7 l (fun i (_:Unit)=>(l,((i:Nat):Int),a)) (fun i _=>∀ j (hj:j < l.length),j < i->(fun x:o7=> !Op.bytesLess x.1 a.1) l[j]=false) (fun i _ hi hv=>?_) (fun _ hv=>?_) (b0:=()) (fun j hj h=>by omega) (by omega)
  ·unfold a1d
   dsimp only
   rw [decide_eq_true (by omega:(i:Int) < ((l.length:Nat):Int)),E4,decide_eq_true (by omega:(0:Int)<=(i:Int)/\(i:Int) < ((l.length:Nat):Int)),C4,Int.toNat_natCast,D8 hi]
   cases e:Op.bytesLess l[i].1 a.1 with
   | false=>
    have:I1 l a.1=i:=c07 hi (by rw [e];rfl) hv
    rw [C6,d13 (by omega) hl,Option.map_some,A3,B8,this]
   | true=>
    rw [E4,A3,B4,E2 (by omega)]
    refine⟨(),rfl,fun j hj hlt=>?_⟩
    by_cases ej:j=i
    ·subst ej;rw [e];rfl
    ·exact hv j hj (by omega)
  ·unfold a1d
   dsimp only
   have:I1 l a.1=l.length:=c2R fun j hj=>hv j hj hj
   rw [decide_eq_false (by omega),C6,d13 (by omega) hl,Option.map_some,A3,B8,this]
theorem d0y (a b:List UInt8):a1I a b=some (d0x a b):=by
 have hn:∀ x,a1c x=some false:=fun x=>by unfold a1c;rw [decide_eq_true rfl];rfl
 unfold a1I d0x
 rw [hn,hn,Option.bind_some,Option.bind_some,C6,C6]
 rcases b5B a b with h | h | h
 ·rw [h,if_pos rfl,E4]
 ·subst h;rw [a2R,decide_eq_true rfl];rfl
 ·have e:a ≠ b:=fun e=>by subst e;rw [a2R] at h;cases h
  rw [b59 h,h,decide_eq_false e];rfl
def Srt (l:List o7):Prop:=l.Pairwise fun a b=>less a b=true
theorem Srt.lt {l:List o7} (h:Srt l) {i j:Nat} (hi:i < l.length) (hj:j < l.length) (hij:i < j):less l[i] l[j]=true:=List.pairwise_iff_getElem.1 h i j hi hj hij
theorem d8p {x:Nat} (h:x<=9223372036854775807):A5 (B1 (A5 (x:Int)) / 2 ^ 1)=((x / 2:Nat):Int):=by
 rw [E0 (n:=(x:Int)) (by omega) (by omega),K9 (by omega) (by omega),E0 (by omega) (by omega)]
 omega
end Go.Proofs.YtbipjlehhlkghaaGreatDoor.Am
