/- Texts laid together: PLedS, PLedO, PAppS, PLen, PDiv. No conditions. -/
import Derived.Test.YtbipjlehhlkghaaGreatDoorQAG
import Derived.Test.YtbipjlehhlkghaaGreatDoorQAE
import Derived.Test.YtbipjlehhlkghaaGreatDoorFAll
import Derived.Lib.Mul64
namespace Go.Proofs.YtbipjlehhlkghaaGreatDoor.Am
open Go
abbrev c5F:o6:=([],(0:Int))
theorem b9I:∀ {l:List o7} {q:o7},b8x (some q) l=0 ↔ (∀ a ∈ l,T4 a.1=true/\less q a=true)/\Srt l
 | [],q=>⟨fun _=>⟨fun a h=>(by cases h),List.Pairwise.nil⟩,fun _=>rfl⟩
 | a :: l,q=>by
  rw [c4l]
  have ih:=b9I (l:=l) (q:=a)
  dsimp only
  constructor
  ·intro h
   by_cases h1:T4 a.1=false
   ·rw [if_pos h1] at h;cases h
   rw [if_neg h1] at h
   by_cases h2:q.1=a.1
   ·rw [if_pos h2] at h;cases h
   rw [if_neg h2] at h
   by_cases h3:less q a=false
   ·rw [if_pos h3] at h;cases h
   rw [if_neg h3] at h
   have h3':less q a=true:=by simpa using h3
   obtain⟨h4,h5⟩:=ih.1 h
   refine⟨fun b hb=>?_,List.pairwise_cons.2 ⟨fun b hb=>(h4 b hb).2,h5⟩⟩
   rcases List.mem_cons.1 hb with rfl | hb
   ·exact⟨by simpa using h1,h3'⟩
   ·exact⟨(h4 b hb).1,b0n h3' (h4 b hb).2⟩
  ·rintro⟨h1,h2⟩
   obtain⟨h3,h4⟩:=List.pairwise_cons.1 h2
   have ha:=h1 a List.mem_cons_self
   have hne:q.1 ≠ a.1:=fun e=>by
    have:=ha.2
    unfold less at this
    rw [e,a2R] at this
    cases this
   rw [if_neg (by rw [ha.1];decide),if_neg hne,if_neg (by rw [ha.2];decide)]
   exact ih.2 ⟨fun b hb=>⟨(h1 b (List.mem_cons_of_mem _ hb)).1,h3 b hb⟩,h4⟩
theorem c4n {l:List o7}:b8x none l=0 ↔ (∀ a ∈ l,T4 a.1=true)/\Srt l:=by
 cases l with
 | nil=>exact⟨fun _=>⟨fun a h=>(by cases h),List.Pairwise.nil⟩,fun _=>rfl⟩
 | cons a l=>
  rw [c4l]
  dsimp only
  constructor
  ·intro h
   by_cases h1:T4 a.1=false
   ·rw [if_pos h1] at h;cases h
   rw [if_neg h1] at h
   obtain⟨h4,h5⟩:=b9I.1 h
   refine⟨fun b hb=>?_,List.pairwise_cons.2 ⟨fun b hb=>(h4 b hb).2,h5⟩⟩
   rcases List.mem_cons.1 hb with rfl | hb
   ·simpa using h1
   ·exact(h4 b hb).1
  ·rintro⟨h1,h2⟩
   obtain⟨h3,h4⟩:=List.pairwise_cons.1 h2
   rw [if_neg (by rw [h1 a List.mem_cons_self];decide)]
   exact b9I.2 ⟨fun b hb=>⟨h1 b (List.mem_cons_of_mem _ hb),h3 b hb⟩,h4⟩
def d7d (g:o6):Prop:=g.1.length<=256/\(∀ a ∈ g.1,T4 a.1=true)/\Srt g.1/\(b4I (g.2 + a8y g.1)).2=true
theorem b9J {g:o6}:b9D g=0 ↔ d7d g:=by
 unfold b9D d7d
 constructor
 ·intro h
  by_cases h1:256 < g.1.length
  ·rw [if_pos h1] at h;cases h
  rw [if_neg h1] at h
  by_cases h2:b8x none g.1=0
  ·rw [if_pos h2] at h
   obtain⟨h3,h4⟩:=c4n.1 h2
   refine⟨by omega,h3,h4,?_⟩
   by_cases h5:(b4I (g.2 + a8y g.1)).2=true
   ·exact h5
   ·rw [if_neg h5] at h;cases h
  ·rw [if_neg h2] at h;exact absurd h h2
 ·rintro⟨h1,h2,h3,h4⟩
  rw [if_neg (by omega),if_pos (c4n.2 ⟨h2,h3⟩),if_pos h4]
theorem d0A {l:List o7} {n:List UInt8} (hs:Srt l):∀ i (hi:i < l.length),I1 l n<=i->Op.bytesLess l[i].1 n=false:=fun i hi h=>by
 have hp:(!Op.bytesLess l[I1 l n].1 n)=true:=b7e (p:=fun a:o7=> !Op.bytesLess a.1 n) (by show I1 l n < l.length;omega)
 rcases Nat.lt_or_ge (I1 l n) i with h1 | h1
 ·have h2:Op.bytesLess l[I1 l n].1 l[i].1=true:=hs.lt (by omega) hi h1
  cases e:Op.bytesLess l[i].1 n with
  | false=>rfl
  | true=>rw [b0n h2 e] at hp;cases hp
 ·have:i=I1 l n:=by omega
  subst this
  simpa using hp
theorem c5G {l:List o7} {n:List UInt8}:∀ i (hi:i < l.length),i < I1 l n->Op.bytesLess l[i].1 n=true:=fun i hi h=>by
 have:=a9R (p:=fun a:o7=> !Op.bytesLess a.1 n) hi h
 simpa using this
theorem a2S {l:List o7} {n:List UInt8} (h:E9 l n < l.length):l[E9 l n].1=n:=of_decide_eq_true (b7e (p:=fun a:o7=>decide (a.1=n)) h)
theorem b4W {l:List o7} {n:List UInt8} (hs:Srt l) (h:E9 l n < l.length):I1 l n=E9 l n:=by
 have hp:=a2S h
 refine c07 h (by rw [hp,a2R];rfl) fun j hj hlt=>?_
 have:=hs.lt hj h hlt
 unfold less at this
 rw [hp] at this
 rw [this];rfl
theorem b4p {l:List o7} {n:List UInt8}:E9 l n < l.length ↔ n ∈ l.map fun a=>a.1:=by
 rw [List.mem_map]
 constructor
 ·intro h
  exact⟨l[E9 l n],List.getElem_mem h,a2S h⟩
 ·rintro⟨a,ha,rfl⟩
  unfold E9
  rw [List.findIdx_lt_length]
  exact⟨a,ha,by simp⟩
theorem a8W {l:List o7} (k:Nat) (a:o7):(l.take k ++ a :: l.drop k).Perm (a :: l):=by
 refine List.perm_middle.trans ?_
 rw [List.take_append_drop]
theorem d3g {l:List o7} {a:o7} (hs:Srt l) (h:¬ E9 l a.1 < l.length):Srt (l.take (I1 l a.1) ++ a :: l.drop (I1 l a.1)):=by
 unfold Srt
 rw [List.pairwise_append]
 have hle:I1 l a.1<=l.length:=c8c _ _
 refine⟨hs.sublist (List.take_sublist _ _),List.pairwise_cons.2 ⟨fun b hb=>?_,hs.sublist (List.drop_sublist _ _)⟩,fun b hb c hc=>?_⟩
 ·obtain⟨j,hj,rfl⟩:=List.getElem_of_mem hb
  rw [List.length_drop] at hj
  rw [List.getElem_drop]
  have h1:=d0A (n:=a.1) hs (I1 l a.1 + j) (by omega) (by omega)
  rcases b5B a.1 (l[I1 l a.1 + j]'(by omega)).1 with e | e | e
  ·exact e
  ·exact absurd (b4p.2 (List.mem_map.2 ⟨l[I1 l a.1 + j]'(by omega),List.getElem_mem _,e.symm⟩)) h
  ·rw [h1] at e;cases e
 ·obtain⟨j,hj,rfl⟩:=List.getElem_of_mem hb
  rw [List.length_take] at hj
  rw [List.getElem_take]
  rcases List.mem_cons.1 hc with rfl | hc
  ·exact c5G j (by omega) (by omega)
  ·obtain⟨i,hi,rfl⟩:=List.getElem_of_mem hc
   rw [List.length_drop] at hi
   rw [List.getElem_drop]
   exact hs.lt (by omega) (by omega) (by omega)
theorem d3h {l:List o7} {a:o7} (hs:Srt l) (h:E9 l a.1 < l.length):Srt (l.set (E9 l a.1) a):=by
 have hn:=a2S h
 unfold Srt
 rw [List.pairwise_iff_getElem]
 intro i j hi hj hij
 rw [List.length_set] at hi hj
 rw [List.getElem_set,List.getElem_set]
 have:=hs.lt hi hj hij
 unfold less at this ⊢
 split
 ·rename_i e
  rw [if_neg (by omega)]
  subst e
  rwa [hn] at this
 ·split
  ·rename_i e
   subst e
   rwa [hn] at this
  ·exact this
theorem b7f {l:List o7} {a:o7} (hs:Srt l):Srt (c4m l a):=by
 unfold c4m
 split
 ·exact d3h hs (by assumption)
 ·exact d3g hs (by assumption)
theorem d3i (l:List o7) (a:o7):(c4m l a).length=if E9 l a.1 < l.length then l.length else l.length + 1:=by
 unfold c4m
 split
 ·exact List.length_set
 ·exact(a8W _ a).length_eq
theorem c08 {l:List o7} (hl:l.length<=4398046511000):J4 l=some l:=by
 have h1:(0 + l.length) * 32<=LIM:=by unfold LIM;omega
 have h2:0 + l.length<=LEN:=by unfold LEN;omega
 unfold J4 b8s
 exact congrArg (fun b=>chk b (some l)) (decide_eq_true ⟨h1,h2⟩)
theorem d3j {g:o6} (hl:g.1.length<=4398046511000):a8E g=some (g.1,g.2):=by
 unfold a8E;rw [c08 hl];rfl
end Go.Proofs.YtbipjlehhlkghaaGreatDoor.Am
namespace Go.Proofs.YtbipjlehhlkghaaGreatDoor.Am
open Go
def G9 (l:List o7):List (List UInt8):=l.map fun a=>a.1
def d0C (seen:List (List UInt8)):List o7->Int
 | []=>0
 | a :: l=>if T4 a.1=false then 10 else if a.1 ∈ seen then 8 else d0C (seen ++ [a.1]) l
theorem c1a (seen:List (List UInt8)) (a:o7) (l:List o7):d0C seen (a :: l)=if T4 a.1=false then 10 else if a.1 ∈ seen then 8 else d0C (seen ++ [a.1]) l:=rfl
theorem b8y {l:List o7} {i:Nat} (h:i < l.length):G9 (l.take (i + 1))=G9 (l.take i) ++ [l[i].1]:=by
 unfold G9;rw [N0 h,List.map_append];rfl
def c2T (l:List o7):List o7:=d6n o9 c5H l
def d37 (l:List o7):o6 × Int:=if 256 < l.length then(c5F,3) else if d0C [] l=0 then(if(b4I (0 + a8y l)).2=true then((c2T l,0),0) else(c5F,6)) else(c5F,d0C [] l)
theorem a9S (l:List o7):(c2T l).Perm l:=(c09 o9 c5H d14 l).1
theorem c8f (l:List o7):(c2T l).Pairwise fun x y=>less y x=false:=by
 have h:=(c09 o9 c5H d14 l).2
 refine h.imp fun {x y} h=>?_
 rw [d0B] at h;exact h
theorem c8g {l:List o7} (h:(G9 l).Nodup) {a b:o7} (ha:a ∈ l) (hb:b ∈ l) (e:a.1=b.1):a=b:=by
 unfold G9 at h
 rw [List.nodup_iff_pairwise_ne,List.pairwise_map] at h
 obtain⟨i,hi,rfl⟩:=List.getElem_of_mem ha
 obtain⟨j,hj,rfl⟩:=List.getElem_of_mem hb
 rcases Nat.lt_trichotomy i j with k | k | k
 ·exact absurd e (List.pairwise_iff_getElem.1 h i j hi hj k)
 ·subst k;rfl
 ·exact absurd e.symm (List.pairwise_iff_getElem.1 h j i hj hi k)
theorem d5F {l:List o7} (h:Srt l):l.Pairwise fun x y=>less y x=false:=h.imp fun {_x _y} k=>b59 k
theorem c8h {l b:List o7} (hn:(G9 l).Nodup) (hp:b.Perm l) (hs:Srt b):b=c2T l:=by
 refine List.Perm.eq_of_pairwise (le:=fun x y=>less y x=false) (fun x y hx hy h1 h2=>?_) (d5F hs) (c8f l) (hp.trans (a9S l).symm)
 refine c8g hn (hp.mem_iff.1 hx) ((a9S l).mem_iff.1 hy) ?_
 rcases b5B x.1 y.1 with e | e | e
 ·unfold less at h2;rw [e] at h2;cases h2
 ·exact e
 ·unfold less at h1;rw [e] at h1;cases h1
theorem d0D {l m:List Int} (h:l.Perm m):l.sum=m.sum:=by
 induction h with
 | nil=>rfl
 | cons x _ ih=>rw [List.sum_cons,List.sum_cons,ih]
 | swap x y l=>simp only [List.sum_cons];omega
 | trans _ _ h1 h2=>rw [h1,h2]
theorem b7g {l m:List o7} (h:l.Perm m):a8y l=a8y m:=d0D (h.map _)
theorem c1b {l:List o7} {n:List UInt8}:E9 l n < l.length ↔ n ∈ G9 l:=b4p
theorem b4X {l m:List o7} (h:l.Perm m) {n:List UInt8}:n ∈ G9 l ↔ n ∈ G9 m:=(h.map _).mem_iff
end Go.Proofs.YtbipjlehhlkghaaGreatDoor.Am
namespace Go.Proofs.YtbipjlehhlkghaaGreatDoor.Am
open Go
theorem c1c (a:o7) (n:List UInt8):a3r a n=some (d0x a.1 n):=by
 unfold a3r;rw [d0y];rfl
theorem c2U {l:List o7} {n:List UInt8} (hs:Srt l) (hl:l.length<=4398046511000):C3 l n=some (((I1 l n:Nat):Int),decide (E9 l n < l.length)):=by
 have hkl:I1 l n<=l.length:=c8c _ _
 have hmono:∀ i (hi:i < l.length),I1 l n<=i->Op.bytesLess l[i].1 n=false:=fun i hi h=>by
  have hp:(!Op.bytesLess l[I1 l n].1 n)=true:=b7e (p:=fun a:o7=> !Op.bytesLess a.1 n) (by show I1 l n < l.length;omega)
  rcases Nat.lt_or_ge (I1 l n) i with h1 | h1
  ·have h2:Op.bytesLess l[I1 l n].1 l[i].1=true:=hs.lt (by omega) hi h1
   cases e:Op.bytesLess l[i].1 n with
   | false=>rfl
   | true=>rw [b0n h2 e] at hp;cases hp
  ·have:i=I1 l n:=by omega
   subst this
   simpa using hp
 have hless:∀ i (hi:i < l.length),i < I1 l n->Op.bytesLess l[i].1 n=true:=fun i hi h=>by
  have:=a9R (p:=fun a:o7=> !Op.bytesLess a.1 n) hi h
  simpa using this
 have hfind:E9 l n < l.length ↔ ∃ h:I1 l n < l.length,l[I1 l n].1=n:=by
  constructor
  ·intro h
   have hp:l[E9 l n].1=n:=of_decide_eq_true (b7e (p:=fun a:o7=>decide (a.1=n)) h)
   have:I1 l n=E9 l n:=by
    refine c07 h (by rw [hp,a2R];rfl) fun j hj hlt=>?_
    have:=hs.lt hj h hlt
    unfold less at this
    rw [hp] at this
    rw [this];rfl
   exact⟨by omega,by simp only [this,hp]⟩
  ·rintro⟨h,e⟩
   rcases Nat.lt_or_ge (E9 l n) l.length with h1 | h1
   ·exact h1
   ·exfalso
    have:=a9R (p:=fun a:o7=>decide (a.1=n)) h (by show I1 l n < E9 l n;omega)
    exact of_decide_eq_false this e
 rw [<-L4]
 unfold C3 F8
 refine Q7 (fun m v=>∃ lo hi:Nat,v=(l,n,((l.length:Nat):Int),(lo:Int),(hi:Int))/\lo<=I1 l n/\I1 l n<=hi/\hi<=l.length/\m=hi - lo) ?_ (n:=l.length) ⟨0,l.length,rfl,by omega,hkl,by omega,by omega⟩ (by omega)
 rintro m v ⟨lo,hi,rfl,h1,h2,h3,rfl⟩
 unfold C9
 dsimp only
 rw [C0]
 refine⟨fun h=>?_,fun h=>?_⟩
 ·have h:=of_decide_eq_true h
  have hsum:(lo:Int) + (hi:Int)=((lo + hi:Nat):Int):=by omega
  have hm:(lo + hi) / 2 < l.length:=by omega
  rw [hsum,d8p (by omega),decide_eq_true (by omega:(0:Int)<=(((lo + hi) / 2:Nat):Int)/\(((lo + hi) / 2:Nat):Int) < ((l.length:Nat):Int)),C4,Int.toNat_natCast,D8 hm,c1c,Option.bind_some,C0]
  refine⟨fun hc=>?_,fun hc=>?_⟩
  ·have hc:=(b6a _ _).1 (of_decide_eq_true hc)
   rw [A3,B4,E2 (by omega)]
   refine⟨hi - ((lo + hi) / 2 + 1),by omega,(lo + hi) / 2 + 1,hi,rfl,?_,h2,h3,rfl⟩
   rcases Nat.lt_or_ge ((lo + hi) / 2) (I1 l n) with h4 | h4
   ·omega
   ·rw [hmono _ hm h4] at hc;cases hc
  ·have hc:=of_decide_eq_false hc
   rw [b6a] at hc
   rw [A3,B4]
   refine⟨(lo + hi) / 2 - lo,by omega,lo,(lo + hi) / 2,rfl,h1,?_,by omega,rfl⟩
   rcases Nat.lt_or_ge ((lo + hi) / 2) (I1 l n) with h4 | h4
   ·exact absurd (hless _ hm h4) hc
   ·exact h4
 ·have h:=of_decide_eq_false h
  have he:lo=I1 l n:=by omega
  subst he
  unfold C8
  rw [D5,C0]
  refine⟨fun hk=>?_,fun hk=>?_⟩
  ·have hk:=of_decide_eq_true hk
   have hk':I1 l n < l.length:=by omega
   rw [decide_eq_true (by omega:(0:Int)<=((I1 l n:Nat):Int)/\((I1 l n:Nat):Int) < ((l.length:Nat):Int)),C4,Int.toNat_natCast,D8 hk',c1c,Option.bind_some,A3,B8]
   refine Prod.ext rfl ?_
   show decide (d0x l[I1 l n].1 n=0)=decide (E9 l n < l.length)
   rw [decide_eq_decide,c8b,hfind]
   exact⟨fun e=>⟨hk',e⟩,fun⟨_,e⟩=>e⟩
  ·have hk:=of_decide_eq_false hk
   rw [A3,B8,decide_eq_false (fun h=>by obtain⟨h,_⟩:=hfind.1 h;omega)]
end Go.Proofs.YtbipjlehhlkghaaGreatDoor.Am
namespace Go.Proofs.YtbipjlehhlkghaaGreatDoor.Am
open Go
def BL (n t:Nat):Prop:=2 ^ (t - 1)<=n/\n < 2 ^ t/\1<=t
theorem d5G:∃ tab:List UInt8,(∀ v0 v2:Int,X9 v0 v2=chk (decide ((0:Int)<=(wu8 v0)/\(wu8 v0) < 256)) (some (A5 (v2 + (A5 ((UInt8.toNat (List.getD tab (Int.toNat (wu8 v0)) (0:UInt8)):Nat):Int))))))/\∀ k,k < 256->1<=k->2 ^ ((tab.getD k 0).toNat - 1)<=k/\k < 2 ^ (tab.getD k 0).toNat/\1<=(tab.getD k 0).toNat:=⟨_,fun _ _=>rfl,of_decide_eq_true (by kernel_rfl)⟩
theorem d5H {n:Nat} (h1:1<=n) (h2:n < 256) {c:Nat} (hc:c<=1000):∃ t,X9 (n:Int) (c:Int)=some ((c + t:Nat):Int)/\BL n t:=by
 obtain⟨tab,e,h⟩:=d5G
 have hu:wu8 (n:Int)=(n:Int):=d5E (by omega) (by omega)
 have hb:=h n h2 h1
 have hlt:=(tab.getD n 0).toNat_lt
 refine⟨(tab.getD n 0).toNat,?_,hb⟩
 rw [e,hu,decide_eq_true (by omega),C4,Int.toNat_natCast,E0 (n:=(((tab.getD n 0).toNat:Nat):Int)) (by omega) (by omega),E0 (by omega) (by omega)]
 congr 1
theorem BL.up {n t:Nat} (s:Nat) (h:BL (n / 2 ^ s) t):BL n (s + t):=by
 obtain⟨h1,h2,h3⟩:=h
 have hp:0 < 2 ^ s:=Nat.pow_pos (by omega)
 refine⟨?_,?_,by omega⟩
 ·have h4:=(Nat.le_div_iff_mul_le hp).1 h1
  rw [<-Nat.pow_add] at h4
  rwa [show s + t - 1=t - 1 + s by omega]
 ·have h4:=(Nat.div_lt_iff_lt_mul hp).1 h2
  rw [<-Nat.pow_add] at h4
  rwa [Nat.add_comm]
theorem b9K (n s:Nat):(n:Int) / 2 ^ s=((n / 2 ^ s:Nat):Int):=by
 rw [Int.natCast_ediv,Int.natCast_pow];rfl
theorem d5I {n:Nat} (h1:1<=n) (h2:n < 65536) {c:Nat} (hc:c<=900):∃ t,Y0 (n:Int) (c:Int)=some ((c + t:Nat):Int)/\BL n t:=by
 unfold Y0
 by_cases h:256<=n
 ·obtain⟨t,e,hb⟩:=d5H (n:=n / 2 ^ 8) (by omega) (by omega) (c:=c + 8) (by omega)
  refine⟨8 + t,?_,hb.up 8⟩
  have e0:(n:Int) / 2 ^ 8=((n / 2 ^ 8:Nat):Int):=b9K n 8
  have e1:A5 ((c:Int) + 8)=((c + 8:Nat):Int):=by rw [E0] <;> omega
  have e2:c + 8 + t=c + (8 + t):=by omega
  rw [decide_eq_true (by omega),E4,e0,e1,e,e2]
 ·rw [decide_eq_false (by omega),C6]
  exact d5H h1 (by omega) (by omega)
theorem d5J {n:Nat} (h1:1<=n) (h2:n < 4294967296) {c:Nat} (hc:c<=800):∃ t,Y1 (n:Int) (c:Int)=some ((c + t:Nat):Int)/\BL n t:=by
 unfold Y1
 by_cases h:65536<=n
 ·obtain⟨t,e,hb⟩:=d5I (n:=n / 2 ^ 16) (by omega) (by omega) (c:=c + 16) (by omega)
  refine⟨16 + t,?_,hb.up 16⟩
  have e0:(n:Int) / 2 ^ 16=((n / 2 ^ 16:Nat):Int):=b9K n 16
  have e1:A5 ((c:Int) + 16)=((c + 16:Nat):Int):=by rw [E0] <;> omega
  have e2:c + 16 + t=c + (16 + t):=by omega
  rw [decide_eq_true (by omega),E4,e0,e1,e,e2]
 ·rw [decide_eq_false (by omega),C6]
  exact d5I h1 (by omega) (by omega)
theorem d15 {n:Nat} (h1:1<=n) (h2:n < 18446744073709551616):∃ t,a12 (n:Int)=some ((t:Nat):Int)/\BL n t:=by
 unfold a12
 by_cases h:4294967296<=n
 ·obtain⟨t,e,hb⟩:=d5J (n:=n / 2 ^ 32) (by omega) (by omega) (c:=32) (by omega)
  refine⟨32 + t,?_,hb.up 32⟩
  have e0:(n:Int) / 2 ^ 32=((n / 2 ^ 32:Nat):Int):=b9K n 32
  rw [decide_eq_true (by omega),E4,e0]
  exact e
 ·rw [decide_eq_false (by omega),C6]
  obtain⟨t,e,hb⟩:=d5J (n:=n) h1 (by omega) (c:=0) (by omega)
  refine⟨t,?_,hb⟩
  rw [Nat.zero_add] at e
  exact e
end Go.Proofs.YtbipjlehhlkghaaGreatDoor.Am
namespace Go.Proofs.YtbipjlehhlkghaaGreatDoor.Am
open Go
theorem d6o (m:Nat) (hm:m < 18446744073709551616):(BitVec.ofInt IntKind.u64.bits (m:Int)).toNat=m:=by
 rw [BitVec.toNat_ofInt]
 show((m:Int) % ((2 ^ 64:Nat):Int)).toNat=m
 omega
theorem a6E {m:Nat} (hm:m < 18446744073709551616):bits .and .u64 (m:Int) 4294967295=((m % 4294967296:Nat):Int):=by
 unfold bits
 rw [IntKind.wrap_u64]
 have e:(BitVec.ofInt IntKind.u64.bits (m:Int) &&& BitVec.ofInt IntKind.u64.bits 4294967295).toNat=m % 4294967296:=by
  rw [BitVec.toNat_and,d6o m hm,show(BitVec.ofInt IntKind.u64.bits 4294967295).toNat=4294967295 from rfl]
  exact Nat.and_two_pow_sub_one_eq_mod m 32
 simp only [e]
 omega
theorem d3k {m:Nat} (hm:m < 18446744073709551616):bits .and .u64 (m:Int) 1=((m % 2:Nat):Int):=by
 unfold bits
 rw [IntKind.wrap_u64]
 have e:(BitVec.ofInt IntKind.u64.bits (m:Int) &&& BitVec.ofInt IntKind.u64.bits 1).toNat=m % 2:=by
  rw [BitVec.toNat_and,d6o m hm,show(BitVec.ofInt IntKind.u64.bits 1).toNat=1 from rfl]
  exact Nat.and_two_pow_sub_one_eq_mod m 1
 simp only [e]
 omega
theorem c4o {a b s:Nat} (hb:b < 2 ^ s) (h:2 ^ s * a + b < 18446744073709551616):bits .or .u64 ((2 ^ s * a:Nat):Int) (b:Int)=((2 ^ s * a + b:Nat):Int):=by
 unfold bits
 rw [IntKind.wrap_u64]
 have e:(BitVec.ofInt IntKind.u64.bits ((2 ^ s * a:Nat):Int) ||| BitVec.ofInt IntKind.u64.bits (b:Int)).toNat=2 ^ s * a + b:=by
  rw [BitVec.toNat_or,d6o _ (by omega),d6o _ (by omega)]
  exact(Nat.two_pow_add_eq_or_of_lt hb a).symm
 simp only [e]
 omega
theorem a0X {m:Nat} (h:m < 18446744073709551616):B1 (m:Int)=(m:Int):=K9 (by omega) (by omega)
theorem c8i (m:Nat):B1 (m:Int)=((m % 18446744073709551616:Nat):Int):=by
 rw [B1,IntKind.wrap_u64];omega
theorem b9L (m:Nat):(m:Int) / 2 ^ 32=((m / 4294967296:Nat):Int):=by omega
theorem c9g (a b:Nat):(a:Int) * (b:Int)=((a * b:Nat):Int):=(Int.natCast_mul a b).symm
theorem c9h (a b:Nat):(a:Int) + (b:Int)=((a + b:Nat):Int):=(Int.natCast_add a b).symm
theorem b8z {x y:Nat} (hx:x < 18446744073709551616) (hy:y < 18446744073709551616):a11 (x:Int) (y:Int)=some (((x * y / 18446744073709551616:Nat):Int),((x * y % 18446744073709551616:Nat):Int)):=by
 obtain⟨b1,b2,b3,hhi⟩:=Lib.mul64_hi x y hx hy
 have ha:=Lib.half_mul_le (a:=x / 4294967296) (b:=y / 4294967296) (by omega) (by omega)
 have hb:=Lib.half_mul_le (a:=x / 4294967296) (b:=y % 4294967296) (by omega) (by omega)
 have hc:=Lib.half_mul_le (a:=x % 4294967296) (b:=y / 4294967296) (by omega) (by omega)
 unfold a11
 have hxy:x * y / 18446744073709551616 < 18446744073709551616:=by
  have:x * y < 18446744073709551616 * 18446744073709551616:=Nat.mul_lt_mul'' hx hy
  omega
 simp only [b9L,a6E hx,a6E hy,c9g]
 rw [a0X (m:=x / 4294967296 * (y / 4294967296)) (by omega),a0X (m:=x / 4294967296 * (y % 4294967296)) (by omega),a0X (m:=x % 4294967296 * (y % 4294967296)) b1,a0X (m:=x % 4294967296 * (y / 4294967296)) (by omega)]
 simp only [b9L,c9h]
 rw [a0X b2]
 simp only [a6E b2,b9L,c9h]
 rw [a0X b3,a0X (m:=x / 4294967296 * (y / 4294967296) + (x / 4294967296 * (y % 4294967296) + x % 4294967296 * (y % 4294967296) / 4294967296) / 4294967296) (by omega)]
 simp only [b9L,c9h]
 rw [hhi,a0X hxy,c8i (x * y)]
theorem c2V {x y:Nat} (hx:x < 18446744073709551616) (hy:y < 18446744073709551616):a1g (x:Int) (y:Int)=some (((x * y / 18446744073709551616:Nat):Int),((x * y % 18446744073709551616:Nat):Int)):=by
 have ha:=Lib.half_mul_le (a:=x / 4294967296) (b:=y / 4294967296) (by omega) (by omega)
 have hb:=Lib.half_mul_le (a:=x / 4294967296) (b:=y % 4294967296) (by omega) (by omega)
 have hc:=Lib.half_mul_le (a:=x % 4294967296) (b:=y / 4294967296) (by omega) (by omega)
 have hd:=Lib.half_mul_le (a:=x % 4294967296) (b:=y % 4294967296) (by omega) (by omega)
 have e:x * y=(x / 4294967296) * (y / 4294967296) * (4294967296 * 4294967296) + ((x / 4294967296) * (y % 4294967296) + (x % 4294967296) * (y / 4294967296)) * 4294967296 + (x % 4294967296) * (y % 4294967296):=by
  rw [<-Lib.split_mul,Nat.div_add_mod' x 4294967296,Nat.div_add_mod' y 4294967296]
 unfold a1g
 simp only [b9L,a6E hx,a6E hy,c9g]
 have hxy:x * y / 18446744073709551616 < 18446744073709551616:=by
  have:x * y < 18446744073709551616 * 18446744073709551616:=Nat.mul_lt_mul'' hx hy
  omega
 rw [e] at hxy ⊢
 generalize (x / 4294967296) * (y / 4294967296)=a at *
 generalize (x / 4294967296) * (y % 4294967296)=b at *
 generalize (x % 4294967296) * (y / 4294967296)=c at *
 generalize (x % 4294967296) * (y % 4294967296)=d at *
 rw [a0X (m:=a) (by omega),a0X (m:=b) (by omega),a0X (m:=c) (by omega),a0X (m:=d) (by omega)]
 simp only [b9L,a6E (m:=b) (by omega),a6E (m:=c) (by omega),a6E (m:=d) (by omega),c9h]
 rw [a0X (m:=a + b / 4294967296) (by omega),a0X (m:=d / 4294967296 + b % 4294967296) (by omega)]
 simp only [c9h]
 rw [a0X (m:=a + b / 4294967296 + c / 4294967296) (by omega),a0X (m:=d / 4294967296 + b % 4294967296 + c % 4294967296) (by omega)]
 simp only [b9L,c9h]
 rw [a0X (m:=a + b / 4294967296 + c / 4294967296 + (d / 4294967296 + b % 4294967296 + c % 4294967296) / 4294967296) (by omega)]
 have hm:B1 (((d / 4294967296 + b % 4294967296 + c % 4294967296:Nat):Int) * 2 ^ 32)=((2 ^ 32 * ((d / 4294967296 + b % 4294967296 + c % 4294967296) % 4294967296):Nat):Int):=by
  rw [B1,IntKind.wrap_u64];omega
 rw [hm,c4o (by omega) (by omega)]
 congr 2
 ·omega
 ·omega
def d3l (x y:Nat):Int × Bool:=if x * y < 18446744073709551616 then(((x * y:Nat):Int),true) else(0,false)
theorem c8j (n:Int) (b:Bool):b1h n b=some (if b=true then n else 0,b):=by cases b <;> rfl
theorem d0E {x y:Nat} (hx:x < 18446744073709551616) (hy:y < 18446744073709551616):b0c (x:Int) (y:Int)=some (d3l x y):=by
 unfold b0c d3l
 rw [b8z hx hy,Option.bind_some,c8j,Option.bind_some]
 by_cases h:x * y < 18446744073709551616
 ·have h0:x * y / 18446744073709551616=0:=by omega
  have h1:x * y % 18446744073709551616=x * y:=Nat.mod_eq_of_lt h
  rw [if_pos h,h0,h1];rfl
 ·have h0:¬ ((x * y / 18446744073709551616:Nat):Int)=0:=by omega
  rw [if_neg h]
  dsimp only
  rw [decide_eq_false h0];rfl
theorem d3m {x y:Nat} (hx:x < 18446744073709551616) (_hy:y < 18446744073709551616):a3T (x:Int) (y:Int)=some (d3l x y):=by
 unfold a3T d3l
 by_cases h0:x=0
 ·subst h0
  rw [decide_eq_true (by omega),Bool.not_true,C6,Nat.zero_mul,if_pos (by omega),c9g,Nat.zero_mul]
  rfl
 ·have hd:B1 (Int.tdiv 18446744073709551615 (x:Int))=((18446744073709551615 / x:Nat):Int):=by
   rw [show Int.tdiv 18446744073709551615 (x:Int)=((18446744073709551615 / x:Nat):Int) from rfl,a0X]
   have:=Nat.div_le_self 18446744073709551615 x
   omega
  rw [decide_eq_false (by omega),Bool.not_false,E4,C4,hd,c9g,c8i]
  have key:18446744073709551615 / x < y ↔ ¬ x * y < 18446744073709551616:=by
   rw [Nat.div_lt_iff_lt_mul (by omega),Nat.mul_comm y x];omega
  by_cases h:x * y < 18446744073709551616
  ·rw [if_pos h,decide_eq_false (by have:=(not_congr key).2 (by simpa using h);omega),C6,Nat.mod_eq_of_lt h]
  ·rw [if_neg h,decide_eq_true (by have:=key.2 h;omega),E4]
end Go.Proofs.YtbipjlehhlkghaaGreatDoor.Am
