/- Texts laid together: PLedS, PLedO, PAppS, PLen, PDiv. No conditions. -/
import Derived.Test.YtbipjlehhlkghaaDoorQAG
import Derived.Test.YtbipjlehhlkghaaDoorQAE
import Derived.Test.YtbipjlehhlkghaaDoorFAll
import Derived.Lib.Mul64
namespace Go.Proofs.YtbipjlehhlkghaaDoor.Am
open Go
theorem b1R:∀ {l:List o3} {q:o3},b0K (some q) l=0 ↔ (∀ a ∈ l,X2 a.1=true/\less q a=true)/\Srt l
 | [],q=>⟨fun _=>⟨fun a h=>(by cases h),List.Pairwise.nil⟩,fun _=>rfl⟩
 | a :: l,q=>by
  rw [b5U]
  have ih:=b1R (l:=l) (q:=a)
  dsimp only
  constructor
  ·intro h
   by_cases h1:X2 a.1=false
   ·rw [if_pos h1] at h;cases h
   rw [if_neg h1] at h
   by_cases h2:q.1=a.1
   ·rw [if_pos h2] at h;cases h
   rw [if_neg h2] at h
   by_cases h3:less q a=false
   ·rw [if_pos h3] at h;cases h
   rw [if_neg h3] at h
   have h3':less q a=true:=by simpa using h3
   obtain⟨h4,h5⟩:=ih.1 h
   refine⟨fun b hb=>?_,List.pairwise_cons.2 ⟨fun b hb=>(h4 b hb).2,h5⟩⟩
   rcases List.mem_cons.1 hb with rfl | hb
   ·exact⟨by simpa using h1,h3'⟩
   ·exact⟨(h4 b hb).1,a63 h3' (h4 b hb).2⟩
  ·rintro⟨h1,h2⟩
   obtain⟨h3,h4⟩:=List.pairwise_cons.1 h2
   have ha:=h1 a List.mem_cons_self
   have hne:q.1 ≠ a.1:=fun e=>by
    have:=ha.2
    unfold less at this
    rw [e,a02] at this
    cases this
   rw [if_neg (by rw [ha.1];decide),if_neg hne,if_neg (by rw [ha.2];decide)]
   exact ih.2 ⟨fun b hb=>⟨(h1 b (List.mem_cons_of_mem _ hb)).1,h3 b hb⟩,h4⟩
theorem b5Y {l:List o3}:b0K none l=0 ↔ (∀ a ∈ l,X2 a.1=true)/\Srt l:=by
 cases l with
 | nil=>exact⟨fun _=>⟨fun a h=>(by cases h),List.Pairwise.nil⟩,fun _=>rfl⟩
 | cons a l=>
  rw [b5U]
  dsimp only
  constructor
  ·intro h
   by_cases h1:X2 a.1=false
   ·rw [if_pos h1] at h;cases h
   rw [if_neg h1] at h
   obtain⟨h4,h5⟩:=b1R.1 h
   refine⟨fun b hb=>?_,List.pairwise_cons.2 ⟨fun b hb=>(h4 b hb).2,h5⟩⟩
   rcases List.mem_cons.1 hb with rfl | hb
   ·simpa using h1
   ·exact(h4 b hb).1
  ·rintro⟨h1,h2⟩
   obtain⟨h3,h4⟩:=List.pairwise_cons.1 h2
   rw [if_neg (by rw [h1 a List.mem_cons_self];decide)]
   exact b1R.2 ⟨fun b hb=>⟨h1 b (List.mem_cons_of_mem _ hb),h3 b hb⟩,h4⟩
def c68 (g:o7):Prop:=g.1.length<=256/\(∀ a ∈ g.1,X2 a.1=true)/\Srt g.1/\(a9M (g.2 + b26 g.1)).2=true
theorem b5Z {g:o7}:b2f g=0 ↔ c68 g:=by
 unfold b2f c68
 constructor
 ·intro h
  by_cases h1:256 < g.1.length
  ·rw [if_pos h1] at h;cases h
  rw [if_neg h1] at h
  by_cases h2:b0K none g.1=0
  ·rw [if_pos h2] at h
   obtain⟨h3,h4⟩:=b5Y.1 h2
   refine⟨by omega,h3,h4,?_⟩
   by_cases h5:(a9M (g.2 + b26 g.1)).2=true
   ·exact h5
   ·rw [if_neg h5] at h;cases h
  ·rw [if_neg h2] at h;exact absurd h h2
 ·rintro⟨h1,h2,h3,h4⟩
  rw [if_neg (by omega),if_pos (b5Y.2 ⟨h2,h3⟩),if_pos h4]
theorem c1q {l:List o3} {n:List UInt8} (hs:Srt l):∀ i (hi:i < l.length),C9 l n<=i->Op.bytesLess l[i].1 n=false:=fun i hi h=>by
 have hp:(!Op.bytesLess l[C9 l n].1 n)=true:=b1O (p:=fun a:o3=> !Op.bytesLess a.1 n) (by show C9 l n < l.length;omega)
 rcases Nat.lt_or_ge (C9 l n) i with h1 | h1
 ·have h2:Op.bytesLess l[C9 l n].1 l[i].1=true:=hs.lt (by omega) hi h1
  cases e:Op.bytesLess l[i].1 n with
  | false=>rfl
  | true=>rw [a63 h2 e] at hp;cases hp
 ·have:i=C9 l n:=by omega
  subst this
  simpa using hp
theorem b65 {l:List o3} {n:List UInt8}:∀ i (hi:i < l.length),i < C9 l n->Op.bytesLess l[i].1 n=true:=fun i hi h=>by
 have:=a7s (p:=fun a:o3=> !Op.bytesLess a.1 n) hi h
 simpa using this
theorem a4T {l:List o3} {n:List UInt8} (h:D3 l n < l.length):l[D3 l n].1=n:=of_decide_eq_true (b1O (p:=fun a:o3=>decide (a.1=n)) h)
theorem a7t {l:List o3} {n:List UInt8} (hs:Srt l) (h:D3 l n < l.length):C9 l n=D3 l n:=by
 have hp:=a4T h
 refine b5X h (by rw [hp,a02];rfl) fun j hj hlt=>?_
 have:=hs.lt hj h hlt
 unfold less at this
 rw [hp] at this
 rw [this];rfl
theorem b50 {l:List o3} {n:List UInt8}:D3 l n < l.length ↔ n ∈ l.map fun a=>a.1:=by
 rw [List.mem_map]
 constructor
 ·intro h
  exact⟨l[D3 l n],List.getElem_mem h,a4T h⟩
 ·rintro⟨a,ha,rfl⟩
  unfold D3
  rw [List.findIdx_lt_length]
  exact⟨a,ha,by simp⟩
theorem a8E {l:List o3} (k:Nat) (a:o3):(l.take k ++ a :: l.drop k).Perm (a :: l):=by
 refine List.perm_middle.trans ?_
 rw [List.take_append_drop]
theorem c3q {l:List o3} {a:o3} (hs:Srt l) (h:¬ D3 l a.1 < l.length):Srt (l.take (C9 l a.1) ++ a :: l.drop (C9 l a.1)):=by
 unfold Srt
 rw [List.pairwise_append]
 have hle:C9 l a.1<=l.length:=b9s _ _
 refine⟨hs.sublist (List.take_sublist _ _),List.pairwise_cons.2 ⟨fun b hb=>?_,hs.sublist (List.drop_sublist _ _)⟩,fun b hb c hc=>?_⟩
 ·obtain⟨j,hj,rfl⟩:=List.getElem_of_mem hb
  rw [List.length_drop] at hj
  rw [List.getElem_drop]
  have h1:=c1q (n:=a.1) hs (C9 l a.1 + j) (by omega) (by omega)
  rcases b5V a.1 (l[C9 l a.1 + j]'(by omega)).1 with e | e | e
  ·exact e
  ·exact absurd (b50.2 (List.mem_map.2 ⟨l[C9 l a.1 + j]'(by omega),List.getElem_mem _,e.symm⟩)) h
  ·rw [h1] at e;cases e
 ·obtain⟨j,hj,rfl⟩:=List.getElem_of_mem hb
  rw [List.length_take] at hj
  rw [List.getElem_take]
  rcases List.mem_cons.1 hc with rfl | hc
  ·exact b65 j (by omega) (by omega)
  ·obtain⟨i,hi,rfl⟩:=List.getElem_of_mem hc
   rw [List.length_drop] at hi
   rw [List.getElem_drop]
   exact hs.lt (by omega) (by omega) (by omega)
theorem c3r {l:List o3} {a:o3} (hs:Srt l) (h:D3 l a.1 < l.length):Srt (l.set (D3 l a.1) a):=by
 have hn:=a4T h
 unfold Srt
 rw [List.pairwise_iff_getElem]
 intro i j hi hj hij
 rw [List.length_set] at hi hj
 rw [List.getElem_set,List.getElem_set]
 have:=hs.lt hi hj hij
 unfold less at this ⊢
 split
 ·rename_i e
  rw [if_neg (by omega)]
  subst e
  rwa [hn] at this
 ·split
  ·rename_i e
   subst e
   rwa [hn] at this
  ·exact this
theorem b9w {l:List o3} {a:o3} (hs:Srt l):Srt (b7w l a):=by
 unfold b7w
 split
 ·exact c3r hs (by assumption)
 ·exact c3q hs (by assumption)
theorem c3s (l:List o3) (a:o3):(b7w l a).length=if D3 l a.1 < l.length then l.length else l.length + 1:=by
 unfold b7w
 split
 ·exact List.length_set
 ·exact(a8E _ a).length_eq
theorem b9x {l:List o3} (hl:l.length<=4398046511000):G7 l=some l:=by
 have h1:(0 + l.length) * 32<=LIM:=by unfold LIM;omega
 have h2:0 + l.length<=LEN:=by unfold LEN;omega
 unfold G7 b2Z
 exact congrArg (fun b=>chk b (some l)) (decide_eq_true ⟨h1,h2⟩)
theorem c3t {g:o7} (hl:g.1.length<=4398046511000):a2T g=some (g.1,g.2):=by
 unfold a2T;rw [b9x hl];rfl
end Go.Proofs.YtbipjlehhlkghaaDoor.Am
namespace Go.Proofs.YtbipjlehhlkghaaDoor.Am
open Go
def S1 (l:List o3):List (List UInt8):=l.map fun a=>a.1
theorem b66 {l m:List o3} (h:l.Perm m) {n:List UInt8}:n ∈ S1 l ↔ n ∈ S1 m:=(h.map _).mem_iff
end Go.Proofs.YtbipjlehhlkghaaDoor.Am
namespace Go.Proofs.YtbipjlehhlkghaaDoor.Am
open Go
theorem b28 (a:o3) (n:List UInt8):X7 a n=some (c2n a.1 n):=by
 unfold X7;rw [c1o];rfl
theorem b4E {l:List o3} {n:List UInt8} (hs:Srt l) (hl:l.length<=4398046511000):B1 l n=some (((C9 l n:Nat):Int),decide (D3 l n < l.length)):=by
 have hkl:C9 l n<=l.length:=b9s _ _
 have hmono:∀ i (hi:i < l.length),C9 l n<=i->Op.bytesLess l[i].1 n=false:=fun i hi h=>by
  have hp:(!Op.bytesLess l[C9 l n].1 n)=true:=b1O (p:=fun a:o3=> !Op.bytesLess a.1 n) (by show C9 l n < l.length;omega)
  rcases Nat.lt_or_ge (C9 l n) i with h1 | h1
  ·have h2:Op.bytesLess l[C9 l n].1 l[i].1=true:=hs.lt (by omega) hi h1
   cases e:Op.bytesLess l[i].1 n with
   | false=>rfl
   | true=>rw [a63 h2 e] at hp;cases hp
  ·have:i=C9 l n:=by omega
   subst this
   simpa using hp
 have hless:∀ i (hi:i < l.length),i < C9 l n->Op.bytesLess l[i].1 n=true:=fun i hi h=>by
  have:=a7s (p:=fun a:o3=> !Op.bytesLess a.1 n) hi h
  simpa using this
 have hfind:D3 l n < l.length ↔ ∃ h:C9 l n < l.length,l[C9 l n].1=n:=by
  constructor
  ·intro h
   have hp:l[D3 l n].1=n:=of_decide_eq_true (b1O (p:=fun a:o3=>decide (a.1=n)) h)
   have:C9 l n=D3 l n:=by
    refine b5X h (by rw [hp,a02];rfl) fun j hj hlt=>?_
    have:=hs.lt hj h hlt
    unfold less at this
    rw [hp] at this
    rw [this];rfl
   exact⟨by omega,by simp only [this,hp]⟩
  ·rintro⟨h,e⟩
   rcases Nat.lt_or_ge (D3 l n) l.length with h1 | h1
   ·exact h1
   ·exfalso
    have:=a7s (p:=fun a:o3=>decide (a.1=n)) h (by show C9 l n < D3 l n;omega)
    exact of_decide_eq_false this e
 rw [<-M9]
 unfold B1 B8
 refine a36 (fun m v=>∃ lo hi:Nat,v=(l,n,((l.length:Nat):Int),(lo:Int),(hi:Int))/\lo<=C9 l n/\C9 l n<=hi/\hi<=l.length/\m=hi - lo) ?_ (n:=l.length) ⟨0,l.length,rfl,by omega,hkl,by omega,by omega⟩ (by omega)
 rintro m v ⟨lo,hi,rfl,h1,h2,h3,rfl⟩
 unfold B5
 dsimp only
 rw [B7]
 refine⟨fun h=>?_,fun h=>?_⟩
 ·have h:=of_decide_eq_true h
  have hsum:(lo:Int) + (hi:Int)=((lo + hi:Nat):Int):=by omega
  have hm:(lo + hi) / 2 < l.length:=by omega
  rw [hsum,c7o (by omega),decide_eq_true (by omega:(0:Int)<=(((lo + hi) / 2:Nat):Int)/\(((lo + hi) / 2:Nat):Int) < ((l.length:Nat):Int)),E5,Int.toNat_natCast,E6 hm,b28,Option.bind_some,B7]
  refine⟨fun hc=>?_,fun hc=>?_⟩
  ·have hc:=(b5W _ _).1 (of_decide_eq_true hc)
   rw [A0,A8,H0 (by omega)]
   refine⟨hi - ((lo + hi) / 2 + 1),by omega,(lo + hi) / 2 + 1,hi,rfl,?_,h2,h3,rfl⟩
   rcases Nat.lt_or_ge ((lo + hi) / 2) (C9 l n) with h4 | h4
   ·omega
   ·rw [hmono _ hm h4] at hc;cases hc
  ·have hc:=of_decide_eq_false hc
   rw [b5W] at hc
   rw [A0,A8]
   refine⟨(lo + hi) / 2 - lo,by omega,lo,(lo + hi) / 2,rfl,h1,?_,by omega,rfl⟩
   rcases Nat.lt_or_ge ((lo + hi) / 2) (C9 l n) with h4 | h4
   ·exact absurd (hless _ hm h4) hc
   ·exact h4
 ·have h:=of_decide_eq_false h
  have he:lo=C9 l n:=by omega
  subst he
  unfold B4
  rw [C1,B7]
  refine⟨fun hk=>?_,fun hk=>?_⟩
  ·have hk:=of_decide_eq_true hk
   have hk':C9 l n < l.length:=by omega
   rw [decide_eq_true (by omega:(0:Int)<=((C9 l n:Nat):Int)/\((C9 l n:Nat):Int) < ((l.length:Nat):Int)),E5,Int.toNat_natCast,E6 hk',b28,Option.bind_some,A0,A6]
   refine Prod.ext rfl ?_
   show decide (c2n l[C9 l n].1 n=0)=decide (D3 l n < l.length)
   rw [decide_eq_decide,b9q,hfind]
   exact⟨fun e=>⟨hk',e⟩,fun⟨_,e⟩=>e⟩
  ·have hk:=of_decide_eq_false hk
   rw [A0,A6,decide_eq_false (fun h=>by obtain⟨h,_⟩:=hfind.1 h;omega)]
end Go.Proofs.YtbipjlehhlkghaaDoor.Am
namespace Go.Proofs.YtbipjlehhlkghaaDoor.Am
open Go
def BL (n t:Nat):Prop:=2 ^ (t - 1)<=n/\n < 2 ^ t/\1<=t
theorem c46:∃ tab:List UInt8,(∀ v0 v2:Int,N2 v0 v2=chk (decide ((0:Int)<=(wu8 v0)/\(wu8 v0) < 256)) (some (B0 (v2 + (B0 ((UInt8.toNat (List.getD tab (Int.toNat (wu8 v0)) (0:UInt8)):Nat):Int))))))/\∀ k,k < 256->1<=k->2 ^ ((tab.getD k 0).toNat - 1)<=k/\k < 2 ^ (tab.getD k 0).toNat/\1<=(tab.getD k 0).toNat:=⟨_,fun _ _=>rfl,of_decide_eq_true (by kernel_rfl)⟩
theorem c47 {n:Nat} (h1:1<=n) (h2:n < 256) {c:Nat} (hc:c<=1000):∃ t,N2 (n:Int) (c:Int)=some ((c + t:Nat):Int)/\BL n t:=by
 obtain⟨tab,e,h⟩:=c46
 have hu:wu8 (n:Int)=(n:Int):=c45 (by omega) (by omega)
 have hb:=h n h2 h1
 have hlt:=(tab.getD n 0).toNat_lt
 refine⟨(tab.getD n 0).toNat,?_,hb⟩
 rw [e,hu,decide_eq_true (by omega),E5,Int.toNat_natCast,D9 (n:=(((tab.getD n 0).toNat:Nat):Int)) (by omega) (by omega),D9 (by omega) (by omega)]
 congr 1
theorem BL.up {n t:Nat} (s:Nat) (h:BL (n / 2 ^ s) t):BL n (s + t):=by
 obtain⟨h1,h2,h3⟩:=h
 have hp:0 < 2 ^ s:=Nat.pow_pos (by omega)
 refine⟨?_,?_,by omega⟩
 ·have h4:=(Nat.le_div_iff_mul_le hp).1 h1
  rw [<-Nat.pow_add] at h4
  rwa [show s + t - 1=t - 1 + s by omega]
 ·have h4:=(Nat.div_lt_iff_lt_mul hp).1 h2
  rw [<-Nat.pow_add] at h4
  rwa [Nat.add_comm]
theorem b4F (n s:Nat):(n:Int) / 2 ^ s=((n / 2 ^ s:Nat):Int):=by
 rw [Int.natCast_ediv,Int.natCast_pow];rfl
theorem c48 {n:Nat} (h1:1<=n) (h2:n < 65536) {c:Nat} (hc:c<=900):∃ t,N3 (n:Int) (c:Int)=some ((c + t:Nat):Int)/\BL n t:=by
 unfold N3
 by_cases h:256<=n
 ·obtain⟨t,e,hb⟩:=c47 (n:=n / 2 ^ 8) (by omega) (by omega) (c:=c + 8) (by omega)
  refine⟨8 + t,?_,hb.up 8⟩
  have e0:(n:Int) / 2 ^ 8=((n / 2 ^ 8:Nat):Int):=b4F n 8
  have e1:B0 ((c:Int) + 8)=((c + 8:Nat):Int):=by rw [D9] <;> omega
  have e2:c + 8 + t=c + (8 + t):=by omega
  rw [decide_eq_true (by omega),D6,e0,e1,e,e2]
 ·rw [decide_eq_false (by omega),C8]
  exact c47 h1 (by omega) (by omega)
theorem c49 {n:Nat} (h1:1<=n) (h2:n < 4294967296) {c:Nat} (hc:c<=800):∃ t,N4 (n:Int) (c:Int)=some ((c + t:Nat):Int)/\BL n t:=by
 unfold N4
 by_cases h:65536<=n
 ·obtain⟨t,e,hb⟩:=c48 (n:=n / 2 ^ 16) (by omega) (by omega) (c:=c + 16) (by omega)
  refine⟨16 + t,?_,hb.up 16⟩
  have e0:(n:Int) / 2 ^ 16=((n / 2 ^ 16:Nat):Int):=b4F n 16
  have e1:B0 ((c:Int) + 16)=((c + 16:Nat):Int):=by rw [D9] <;> omega
  have e2:c + 16 + t=c + (16 + t):=by omega
  rw [decide_eq_true (by omega),D6,e0,e1,e,e2]
 ·rw [decide_eq_false (by omega),C8]
  exact c48 h1 (by omega) (by omega)
theorem c5a {n:Nat} (h1:1<=n) (h2:n < 18446744073709551616):∃ t,Z3 (n:Int)=some ((t:Nat):Int)/\BL n t:=by
 unfold Z3
 by_cases h:4294967296<=n
 ·obtain⟨t,e,hb⟩:=c49 (n:=n / 2 ^ 32) (by omega) (by omega) (c:=32) (by omega)
  refine⟨32 + t,?_,hb.up 32⟩
  have e0:(n:Int) / 2 ^ 32=((n / 2 ^ 32:Nat):Int):=b4F n 32
  rw [decide_eq_true (by omega),D6,e0]
  exact e
 ·rw [decide_eq_false (by omega),C8]
  obtain⟨t,e,hb⟩:=c49 (n:=n) h1 (by omega) (c:=0) (by omega)
  refine⟨t,?_,hb⟩
  rw [Nat.zero_add] at e
  exact e
end Go.Proofs.YtbipjlehhlkghaaDoor.Am
namespace Go.Proofs.YtbipjlehhlkghaaDoor.Am
open Go
theorem c5E (m:Nat) (hm:m < 18446744073709551616):(BitVec.ofInt IntKind.u64.bits (m:Int)).toNat=m:=by
 rw [BitVec.toNat_ofInt]
 show((m:Int) % ((2 ^ 64:Nat):Int)).toNat=m
 omega
theorem a1q {m:Nat} (hm:m < 18446744073709551616):bits .and .u64 (m:Int) 4294967295=((m % 4294967296:Nat):Int):=by
 unfold bits
 rw [IntKind.wrap_u64]
 have e:(BitVec.ofInt IntKind.u64.bits (m:Int) &&& BitVec.ofInt IntKind.u64.bits 4294967295).toNat=m % 4294967296:=by
  rw [BitVec.toNat_and,c5E m hm,show(BitVec.ofInt IntKind.u64.bits 4294967295).toNat=4294967295 from rfl]
  exact Nat.and_two_pow_sub_one_eq_mod m 32
 simp only [e]
 omega
theorem c3u {m:Nat} (hm:m < 18446744073709551616):bits .and .u64 (m:Int) 1=((m % 2:Nat):Int):=by
 unfold bits
 rw [IntKind.wrap_u64]
 have e:(BitVec.ofInt IntKind.u64.bits (m:Int) &&& BitVec.ofInt IntKind.u64.bits 1).toNat=m % 2:=by
  rw [BitVec.toNat_and,c5E m hm,show(BitVec.ofInt IntKind.u64.bits 1).toNat=1 from rfl]
  exact Nat.and_two_pow_sub_one_eq_mod m 1
 simp only [e]
 omega
theorem b51 {a b s:Nat} (hb:b < 2 ^ s) (h:2 ^ s * a + b < 18446744073709551616):bits .or .u64 ((2 ^ s * a:Nat):Int) (b:Int)=((2 ^ s * a + b:Nat):Int):=by
 unfold bits
 rw [IntKind.wrap_u64]
 have e:(BitVec.ofInt IntKind.u64.bits ((2 ^ s * a:Nat):Int) ||| BitVec.ofInt IntKind.u64.bits (b:Int)).toNat=2 ^ s * a + b:=by
  rw [BitVec.toNat_or,c5E _ (by omega),c5E _ (by omega)]
  exact(Nat.two_pow_add_eq_or_of_lt hb a).symm
 simp only [e]
 omega
theorem P7 {m:Nat} (h:m < 18446744073709551616):A7 (m:Int)=(m:Int):=Q0 (by omega) (by omega)
theorem b9y (m:Nat):A7 (m:Int)=((m % 18446744073709551616:Nat):Int):=by
 rw [A7,IntKind.wrap_u64];omega
theorem b1S (m:Nat):(m:Int) / 2 ^ 32=((m / 4294967296:Nat):Int):=by omega
theorem b96 (a b:Nat):(a:Int) * (b:Int)=((a * b:Nat):Int):=(Int.natCast_mul a b).symm
theorem b97 (a b:Nat):(a:Int) + (b:Int)=((a + b:Nat):Int):=(Int.natCast_add a b).symm
theorem b0M {x y:Nat} (hx:x < 18446744073709551616) (hy:y < 18446744073709551616):T6 (x:Int) (y:Int)=some (((x * y / 18446744073709551616:Nat):Int),((x * y % 18446744073709551616:Nat):Int)):=by
 obtain⟨b1,b2,b3,hhi⟩:=Lib.mul64_hi x y hx hy
 have ha:=Lib.half_mul_le (a:=x / 4294967296) (b:=y / 4294967296) (by omega) (by omega)
 have hb:=Lib.half_mul_le (a:=x / 4294967296) (b:=y % 4294967296) (by omega) (by omega)
 have hc:=Lib.half_mul_le (a:=x % 4294967296) (b:=y / 4294967296) (by omega) (by omega)
 unfold T6
 have hxy:x * y / 18446744073709551616 < 18446744073709551616:=by
  have:x * y < 18446744073709551616 * 18446744073709551616:=Nat.mul_lt_mul'' hx hy
  omega
 simp only [b1S,a1q hx,a1q hy,b96]
 rw [P7 (m:=x / 4294967296 * (y / 4294967296)) (by omega),P7 (m:=x / 4294967296 * (y % 4294967296)) (by omega),P7 (m:=x % 4294967296 * (y % 4294967296)) b1,P7 (m:=x % 4294967296 * (y / 4294967296)) (by omega)]
 simp only [b1S,b97]
 rw [P7 b2]
 simp only [a1q b2,b1S,b97]
 rw [P7 b3,P7 (m:=x / 4294967296 * (y / 4294967296) + (x / 4294967296 * (y % 4294967296) + x % 4294967296 * (y % 4294967296) / 4294967296) / 4294967296) (by omega)]
 simp only [b1S,b97]
 rw [hhi,P7 hxy,b9y (x * y)]
theorem b4G {x y:Nat} (hx:x < 18446744073709551616) (hy:y < 18446744073709551616):R3 (x:Int) (y:Int)=some (((x * y / 18446744073709551616:Nat):Int),((x * y % 18446744073709551616:Nat):Int)):=by
 have ha:=Lib.half_mul_le (a:=x / 4294967296) (b:=y / 4294967296) (by omega) (by omega)
 have hb:=Lib.half_mul_le (a:=x / 4294967296) (b:=y % 4294967296) (by omega) (by omega)
 have hc:=Lib.half_mul_le (a:=x % 4294967296) (b:=y / 4294967296) (by omega) (by omega)
 have hd:=Lib.half_mul_le (a:=x % 4294967296) (b:=y % 4294967296) (by omega) (by omega)
 have e:x * y=(x / 4294967296) * (y / 4294967296) * (4294967296 * 4294967296) + ((x / 4294967296) * (y % 4294967296) + (x % 4294967296) * (y / 4294967296)) * 4294967296 + (x % 4294967296) * (y % 4294967296):=by
  rw [<-Lib.split_mul,Nat.div_add_mod' x 4294967296,Nat.div_add_mod' y 4294967296]
 unfold R3
 simp only [b1S,a1q hx,a1q hy,b96]
 have hxy:x * y / 18446744073709551616 < 18446744073709551616:=by
  have:x * y < 18446744073709551616 * 18446744073709551616:=Nat.mul_lt_mul'' hx hy
  omega
 rw [e] at hxy ⊢
 generalize (x / 4294967296) * (y / 4294967296)=a at *
 generalize (x / 4294967296) * (y % 4294967296)=b at *
 generalize (x % 4294967296) * (y / 4294967296)=c at *
 generalize (x % 4294967296) * (y % 4294967296)=d at *
 rw [P7 (m:=a) (by omega),P7 (m:=b) (by omega),P7 (m:=c) (by omega),P7 (m:=d) (by omega)]
 simp only [b1S,a1q (m:=b) (by omega),a1q (m:=c) (by omega),a1q (m:=d) (by omega),b97]
 rw [P7 (m:=a + b / 4294967296) (by omega),P7 (m:=d / 4294967296 + b % 4294967296) (by omega)]
 simp only [b97]
 rw [P7 (m:=a + b / 4294967296 + c / 4294967296) (by omega),P7 (m:=d / 4294967296 + b % 4294967296 + c % 4294967296) (by omega)]
 simp only [b1S,b97]
 rw [P7 (m:=a + b / 4294967296 + c / 4294967296 + (d / 4294967296 + b % 4294967296 + c % 4294967296) / 4294967296) (by omega)]
 have hm:A7 (((d / 4294967296 + b % 4294967296 + c % 4294967296:Nat):Int) * 2 ^ 32)=((2 ^ 32 * ((d / 4294967296 + b % 4294967296 + c % 4294967296) % 4294967296):Nat):Int):=by
  rw [A7,IntKind.wrap_u64];omega
 rw [hm,b51 (by omega) (by omega)]
 congr 2
 ·omega
 ·omega
def c5b (x y:Nat):Int × Bool:=if x * y < 18446744073709551616 then(((x * y:Nat):Int),true) else(0,false)
theorem b9z (n:Int) (b:Bool):a4H n b=some (if b=true then n else 0,b):=by cases b <;> rfl
theorem c1r {x y:Nat} (hx:x < 18446744073709551616) (hy:y < 18446744073709551616):a33 (x:Int) (y:Int)=some (c5b x y):=by
 unfold a33 c5b
 rw [b0M hx hy,Option.bind_some,b9z,Option.bind_some]
 by_cases h:x * y < 18446744073709551616
 ·have h0:x * y / 18446744073709551616=0:=by omega
  have h1:x * y % 18446744073709551616=x * y:=Nat.mod_eq_of_lt h
  rw [if_pos h,h0,h1];rfl
 ·have h0:¬ ((x * y / 18446744073709551616:Nat):Int)=0:=by omega
  rw [if_neg h]
  dsimp only
  rw [decide_eq_false h0];rfl
theorem c3v {x y:Nat} (hx:x < 18446744073709551616) (_hy:y < 18446744073709551616):Z5 (x:Int) (y:Int)=some (c5b x y):=by
 unfold Z5 c5b
 by_cases h0:x=0
 ·subst h0
  rw [decide_eq_true (by omega),Bool.not_true,C8,Nat.zero_mul,if_pos (by omega),b96,Nat.zero_mul]
  rfl
 ·have hd:A7 (Int.tdiv 18446744073709551615 (x:Int))=((18446744073709551615 / x:Nat):Int):=by
   rw [show Int.tdiv 18446744073709551615 (x:Int)=((18446744073709551615 / x:Nat):Int) from rfl,P7]
   have:=Nat.div_le_self 18446744073709551615 x
   omega
  rw [decide_eq_false (by omega),Bool.not_false,D6,E5,hd,b96,b9y]
  have key:18446744073709551615 / x < y ↔ ¬ x * y < 18446744073709551616:=by
   rw [Nat.div_lt_iff_lt_mul (by omega),Nat.mul_comm y x];omega
  by_cases h:x * y < 18446744073709551616
  ·rw [if_pos h,decide_eq_false (by have:=(not_congr key).2 (by simpa using h);omega),C8,Nat.mod_eq_of_lt h]
  ·rw [if_neg h,decide_eq_true (by have:=key.2 h;omega),D6]
end Go.Proofs.YtbipjlehhlkghaaDoor.Am
