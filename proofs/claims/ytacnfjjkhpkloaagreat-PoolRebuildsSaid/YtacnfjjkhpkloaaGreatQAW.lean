/- Texts laid together: PShaN, PEnt. No conditions. -/
import Derived.Test.YtacnfjjkhpkloaaGreatFAll
import Derived.Test.YtacnfjjkhpkloaaGreatQAO
import Derived.Test.YtacnfjjkhpkloaaGreatQAQ
namespace Go.Proofs.YtacnfjjkhpkloaaGreat.Am
open Go
abbrev Ans {α:Type} (o:Option α):Prop:=Ok o fun _=>True
theorem a2P (x:Int) {k:Int} (h0:0<=k) (h1:k<=32):Ans (E3 x k):=by
 have w:C6 (32 - k)=32 - k:=E4 (by omega) (by omega)
 simp only [Ans,E3,w,F8,B9,decide_eq_true_eq]
 exact⟨h0,by omega,trivial⟩
theorem a9n {α β:Type} {o:Option α} {f:α->Option β} {p:β->Prop} (h:Ans o) (k:∀ r,Ok (f r) p):Ok (o.bind f) p:=by
 rw [C2];exact h.mono fun r _=>k r
theorem c7m (b0 b1 b2:Vector Int 8):Ans (Z2 0 b0 b1 b2):=by
 unfold Z2
 refine O3 (fun n v=>∃ i:Nat,i + n=8/\v.1=(i:Int)) ?_ ⟨0,rfl,rfl⟩ (n:=8) (by omega)
 rintro n ⟨v,b0,b1,b2⟩ ⟨i,hi,rfl⟩
 simp only [a0m,H2 (i:=i) (by omega),D2,F8,B9,C9,D4,decide_eq_true_eq,decide_eq_false_iff_not,Int.toNat_natCast]
 refine⟨fun h=>⟨by omega,by omega,by omega,by omega,by omega,by omega,n - 1,by omega,i + 1,by omega,rfl⟩,fun _=>trivial⟩
theorem c7n (b0 b1:Vector Int 8) (b2 b3:Vector Int 64) (b4:Vector Int 8):Ans (Z3 0 b0 b1 b2 b3 b4):=by
 unfold Z3
 refine O3 (fun n v=>∃ i:Nat,i + n=64/\v.1=(i:Int)) ?_ ⟨0,rfl,rfl⟩ (n:=64) (by omega)
 rintro n ⟨v,b0,b1,b2,b3,b4⟩ ⟨i,hi,rfl⟩
 simp only [a0n,H2 (i:=i) (by omega)]
 rw [D2]
 refine⟨fun h=>?_,fun _=>?_⟩
 ·have h':(i:Int) < 64:=of_decide_eq_true h
  refine a9n (a2P _ (by omega) (by omega)) fun r2=>a9n (a2P _ (by omega) (by omega)) fun r3=>a9n (a2P _ (by omega) (by omega)) fun r4=>?_
  simp only [F8,C2,B9,C9,decide_eq_true_eq,Int.toNat_natCast]
  refine⟨by omega,by omega,by omega,by omega,(a2P _ (by omega) (by omega)).mono fun r5 _=>(a2P _ (by omega) (by omega)).mono fun r6 _=>(a2P _ (by omega) (by omega)).mono fun r7 _=>⟨n - 1,by omega,i + 1,by omega,rfl⟩⟩
 ·rw [F0];exact c7m _ _ _
theorem c7o (b0 b1:Vector Int 8) (b2:Vector Int 64):Ans (Z4 16 b0 b1 b2):=by
 unfold Z4
 refine O3 (fun n v=>∃ i:Nat,i + n=64/\16<=i/\v.1=(i:Int)) ?_ ⟨16,rfl,by omega,rfl⟩ (n:=48) (by omega)
 rintro n ⟨v,b0,b1,b2⟩ ⟨i,hi,h16,rfl⟩
 have w1:C6 ((i:Int) - 15)=(i:Int) - 15:=E4 (by omega) (by omega)
 have w2:C6 ((i:Int) - 2)=(i:Int) - 2:=E4 (by omega) (by omega)
 have w3:C6 ((i:Int) - 7)=(i:Int) - 7:=E4 (by omega) (by omega)
 have w4:C6 ((i:Int) - 16)=(i:Int) - 16:=E4 (by omega) (by omega)
 simp only [a0p,H2 (i:=i) (by omega),w1,w2,w3,w4,D2,F8,C2,B9,F0,C9,D4,decide_eq_true_eq,decide_eq_false_iff_not,Int.toNat_natCast]
 refine⟨fun h=>⟨by omega,by omega,by omega,by omega,(a2P _ (by omega) (by omega)).mono fun r5 _=>(a2P _ (by omega) (by omega)).mono fun r6 _=>⟨by omega,by omega,(a2P _ (by omega) (by omega)).mono fun r7 _=>(a2P _ (by omega) (by omega)).mono fun r8 _=>⟨by omega,by omega,by omega,by omega,n - 1,by omega,i + 1,by omega,by omega,rfl⟩⟩⟩,fun _=>?_⟩
 unfold a0o
 exact a9n ⟨_,rfl,trivial⟩ fun r=>c7n _ _ _ _ _
theorem c0J (s:Vector Int 8) {b:List UInt8} (hb:64<=b.length):Ans (Z5 s b):=by
 unfold Z5 a2b
 refine O3 (fun n v=>∃ i:Nat,i + n=16/\v.1=b/\v.2.1=(i:Int)) ?_ ⟨0,rfl,rfl,rfl⟩ (n:=16) (by omega)
 rintro n ⟨v0,v,b0,b1,b2⟩ ⟨i,hi,h0,h1⟩
 dsimp only at h0 h1 ⊢
 subst h0 h1
 have w0:C6 (4 * (i:Int))=4 * (i:Int):=E4 (by omega) (by omega)
 have w1:C6 (4 * (i:Int) + 1)=4 * (i:Int) + 1:=E4 (by omega) (by omega)
 have w2:C6 (4 * (i:Int) + 2)=4 * (i:Int) + 2:=E4 (by omega) (by omega)
 have w3:C6 (4 * (i:Int) + 3)=4 * (i:Int) + 3:=E4 (by omega) (by omega)
 simp only [a0r,H2 (i:=i) (by omega),w0,w1,w2,w3,D2,F8,B9,F0,C9,D4,decide_eq_true_eq,decide_eq_false_iff_not,Int.toNat_natCast]
 refine⟨fun h=>⟨by omega,by omega,by omega,by omega,by omega,by omega,n - 1,by omega,i + 1,by omega,trivial,rfl⟩,fun _=>?_⟩
 unfold a0q
 exact c7o _ _ _
theorem c7p (b0:Vector UInt8 32) (b1:Vector Int 8):Ans (X5 b0 b1):=by
 unfold X5 a2Y
 refine O3 (fun n v=>∃ i:Nat,i + n=32/\v.1=(i:Int)) ?_ ⟨0,rfl,rfl⟩ (n:=32) (by omega)
 rintro n ⟨v,b0,b1,b2⟩ ⟨i,hi,rfl⟩
 have e1:Int.tdiv (i:Int) 4=((i / 4:Nat):Int):=by rw [Int.tdiv_eq_ediv_of_nonneg (by omega)];omega
 have e2:Int.tmod (i:Int) 4=((i % 4:Nat):Int):=by rw [Int.tmod_eq_emod_of_nonneg (by omega)];omega
 dsimp only
 unfold a1b
 rw [D2]
 refine⟨fun h=>?_,fun _=>(B9 _ _).2 trivial⟩
 have h':(i:Int) < 32:=of_decide_eq_true h
 have w0:C6 (Int.tdiv (i:Int) 4)=((i / 4:Nat):Int):=by rw [e1];exact E4 (by omega) (by omega)
 have w1:C6 (Int.tmod (i:Int) 4 * 8)=((i % 4:Nat):Int) * 8:=by rw [e2];exact E4 (by omega) (by omega)
 have w2:C6 (24 - ((i % 4:Nat):Int) * 8)=24 - ((i % 4:Nat):Int) * 8:=E4 (by omega) (by omega)
 simp only [w0,w1,w2,H2 (i:=i) (by omega),F8,B9,C9,decide_eq_true_eq,Int.toNat_natCast]
 refine⟨by omega,by omega,by omega,by omega,by omega,b0c _,n - 1,by omega,i + 1,by omega,rfl⟩
theorem c7q (b0:Vector UInt8 32) {l:List UInt8} (hl:l.length % 64=0) (hb:l.length < 4611686018427387904):Ans (X6 b0 l):=by
 unfold X6 a2Z
 refine O3 (fun n v=>∃ i:Nat,i * 64 + n=l.length/\v.1=((i * 64:Nat):Int)/\v.2.2.2=l) ?_ ⟨0,by omega,rfl,rfl⟩ (n:=l.length) (by omega)
 rintro n ⟨v,b0,b1,l'⟩ ⟨i,hi,h1,h2⟩
 simp only at h1 h2
 subst h1 h2
 have w0:C6 (((i * 64:Nat):Int) + 64)=(((i + 1) * 64:Nat):Int):=by rw [E4] <;> omega
 simp only [a1c,w0,D2,F8,C2,B9,F0,C9,D4,decide_eq_true_eq,decide_eq_false_iff_not,Int.toNat_natCast]
 refine⟨fun h=>⟨by omega,(c0J _ ?_).mono fun r _=>⟨n - 64,by omega,i + 1,by omega,rfl,trivial⟩⟩,fun _=>c7p _ _⟩
 rw [List.length_drop,List.length_take]
 omega
theorem c7r (m:Int) (b0:Vector UInt8 32) {l:List UInt8} (hl:l.length % 64=56) (hb:l.length < 1152921504606846976) (hb2:l.length < 140737488355000):Ans (a0Q m 7 b0 l):=by
 unfold a0Q
 refine O3 (fun n v=>n<=8/\v.2.1=(n:Int) - 1/\v.2.2.2.length + n=l.length + 8) ?_ ⟨by omega,rfl,rfl⟩ (n:=8) (by omega)
 rintro n ⟨m,k,b0,l'⟩ ⟨h8,h1,h2⟩
 simp only at h1 h2
 subst h1
 have w0:C6 ((n:Int) - 1 - 1)=(n:Int) - 1 - 1:=E4 (by omega) (by omega)
 have w1:C6 (8 * ((n:Int) - 1))=8 * ((n:Int) - 1):=E4 (by omega) (by omega)
 simp only [a1d,w0,w1,D2,F8,B9,F0,C9,D4,decide_eq_true_eq,decide_eq_false_iff_not]
 refine⟨fun h=>⟨by omega,b0c _,⟨by unfold LIM;omega,by unfold LEN;omega⟩,n - 1,by omega,by omega,by omega,?_⟩,fun h=>c7q _ (by omega) (by omega)⟩
 simp only [List.length_append,List.length_cons,List.length_nil];omega
theorem c2F {l:List UInt8} (hb:l.length < 140737488350000):Ans (a0Y l):=by
 unfold a0Y
 simp only [Ans,F8,decide_eq_true_eq]
 refine⟨⟨by unfold LIM;omega,by unfold LEN;omega⟩,⟨by unfold LIM;omega,by unfold LEN;omega⟩,?_⟩
 unfold a20
 refine O3 (fun n v=>v.1=l/\n < 64/\(v.2.2.length + n) % 64=56/\v.2.2.length<=l.length + 64/\v.2.2.length + n<=l.length + 64) ?_ (n:=(55 + 64 - l.length % 64) % 64) ⟨rfl,by omega,by simp;omega,by simp,by simp;omega⟩ (by omega)
 rintro n ⟨v0,b0,l'⟩ ⟨h0,h1,h2,h3,h4⟩
 dsimp only at h0 h2 h3 h4 ⊢
 subst h0
 have e2:Int.tmod (((List.length l'):Nat):Int) 64=((l'.length % 64:Nat):Int):=by rw [Int.tmod_eq_emod_of_nonneg (by omega)];omega
 simp only [a1f,e2,D2,F8,B9,F0,C9,D4,decide_eq_true_eq,decide_eq_false_iff_not,Bool.not_eq_true',Bool.not_eq_false']
 refine⟨fun h=>⟨⟨by unfold LIM;omega,by unfold LEN;omega⟩,n - 1,by omega,trivial,by omega,?_,?_,?_⟩,fun h=>?_⟩
 ·simp only [List.length_append,List.length_cons,List.length_nil];omega
 ·simp only [List.length_append,List.length_cons,List.length_nil];omega
 ·simp only [List.length_append,List.length_cons,List.length_nil];omega
 ·unfold a1e
  exact c7r _ _ (by omega) (by omega) (by omega)
end Go.Proofs.YtacnfjjkhpkloaaGreat.Am
namespace Go.Proofs.YtacnfjjkhpkloaaGreat.Am
open Go
def a4p:List (List UInt8):=[[97,110,110],[98,111,98],[101,118,101],[122,111,101],[110,101,119],[120,45,49]]
theorem c7s {L:List Int} {k:Int} {s:A4} (hs:a8Z L k s) (hk:k < 4611686018427387904):Ok (a0C s) fun r=>a8Z L (k + 1) r.1/\s.2 < r.1.2/\(r.2.length<=3/\r.2 ∈ a4p):=by
 unfold a0C
 rw [C2]
 refine(R6 hs (by omega) (by omega) hk).mono ?_
 rintro⟨s1,i⟩ ⟨h1,h2,h3,h4⟩
 dsimp only at h1 h2 h3 h4 ⊢
 simp only [F8,B9,decide_eq_true_eq]
 refine⟨⟨h3,h4⟩,by omega,h1,h2,?_⟩
 have:i=0\/i=1\/i=2\/i=3\/i=4\/i=5:=by omega
 rcases this with rfl | rfl | rfl | rfl | rfl | rfl <;> decide
def c90 (e:o7):Prop:=e.2.1.length<=8/\e.2.2.1.length<=3/\(0<=e.2.2.2.1/\e.2.2.2.1 < 4)/\(0<=e.2.2.2.2.1/\e.2.2.2.2.1 < 50)/\(0<=e.2.2.2.2.2.1/\e.2.2.2.2.2.1 < 5)/\(0<=e.2.2.2.2.2.2.1/\e.2.2.2.2.2.2.1 < 9)/\(0<=e.2.2.2.2.2.2.2.1/\e.2.2.2.2.2.2.2.1 < 30)/\(0<=e.2.2.2.2.2.2.2.2.1/\e.2.2.2.2.2.2.2.2.1 < 1000)/\e.2.2.2.2.2.2.2.2.2.length<=2
theorem c0K {L:List Int} {k:Int} {s:A4} (hs:a8Z L k s) (hk:k < 1000000000000) (h0:0<=k):Ok (S4 s) fun r=>a8Z L (k + 19) r.1/\s.2 < r.1.2/\c90 r.2/\(r.2.2.2.2.2.2.2.2.2.1 < 9/\r.2.2.2.1 ∈ a4p):=by
 unfold S4
 rw [C2]
 refine(R6 hs (by omega) (by omega) (by omega)).mono ?_
 rintro⟨s1,n⟩ ⟨h1,h2,h3,h4⟩
 dsimp only at h1 h2 h3 h4 ⊢
 simp only [F8,decide_eq_true_eq]
 refine⟨⟨h3,by omega,by omega,by omega⟩,?_⟩
 unfold a2d
 refine O3 (fun m v=>∃ (i:Nat) (l:List UInt8),l.length<=8/\i + m=l.length/\a8Z L (k + 1 + i) v.2.2.1/\s.2 < v.2.2.1.2/\v.1=(l.length:Int)/\v.2.1=(i:Int)/\v.2.2.2.2=l) ?_ ⟨0,List.replicate (Int.toNat n) (0:UInt8),by simp;omega,Nat.zero_add _,by simpa using h1,h2,rfl,rfl,rfl⟩ (by simp;omega)
 rintro m ⟨v0,v1,sx,ex,l'⟩ ⟨i,l,hl,hi,hn,hlt,g1,g2,g3⟩
 dsimp only at hn hlt g1 g2 g3 ⊢
 subst g1 g2 g3
 simp only [a0u,H2 (i:=i) (by omega),D2,F8,C2,B9,F0,C9,D4,decide_eq_true_eq,decide_eq_false_iff_not,Int.toNat_natCast]
 refine⟨fun h=>?_,fun h=>?_⟩
 ·refine(R6 hn (by omega) (by omega) (by omega)).mono ?_
  rintro⟨s2,x⟩ ⟨q1,q2,q3,q4⟩
  dsimp only at q1 q2 q3 q4 ⊢
  refine⟨by omega,b0c _,by omega,m - 1,by omega,i + 1,_,by rw [List.length_set];exact hl,by rw [List.length_set];omega,?_,by omega,by rw [List.length_set],rfl,rfl⟩
  exact q1.le (by omega)
 ·have hn9:=hn.le (m:=k + 9) (by omega)
  unfold a0t
  rw [C2]
  refine(c2F (by omega)).mono fun key _=>?_
  rw [C2]
  refine(c7s hn9 (by omega)).mono ?_
  rintro⟨s3,nm⟩ ⟨a1,a2,a3⟩
  dsimp only at a1 a2 a3 ⊢
  rw [C2]
  refine(R6 a1 (by omega) (by omega) (by omega)).mono ?_
  rintro⟨s4,x4⟩ ⟨b1,b2,b3,b4⟩
  dsimp only at b1 b2 b3 b4 ⊢
  rw [C2]
  refine(R6 b1 (by omega) (by omega) (by omega)).mono ?_
  rintro⟨s5,x5⟩ ⟨c1,c2,c3,c4⟩
  dsimp only at c1 c2 c3 c4 ⊢
  rw [C2]
  refine(R6 c1 (by omega) (by omega) (by omega)).mono ?_
  rintro⟨s6,x6⟩ ⟨d1,d2,d3,d4⟩
  dsimp only at d1 d2 d3 d4 ⊢
  rw [C2]
  refine(R6 d1 (by omega) (by omega) (by omega)).mono ?_
  rintro⟨s7,x7⟩ ⟨e1,e2,e3,e4⟩
  dsimp only at e1 e2 e3 e4 ⊢
  rw [C2]
  refine(R6 e1 (by omega) (by omega) (by omega)).mono ?_
  rintro⟨s8,x8⟩ ⟨f1,f2,f3,f4⟩
  dsimp only at f1 f2 f3 f4 ⊢
  rw [C2]
  refine(R6 f1 (by omega) (by omega) (by omega)).mono ?_
  rintro⟨s9,x9⟩ ⟨i1,i2,i3,i4⟩
  dsimp only at i1 i2 i3 i4 ⊢
  rw [C2]
  refine(R6 i1 (by omega) (by omega) (by omega)).mono ?_
  rintro⟨s10,x10⟩ ⟨j1,j2,j3,j4⟩
  dsimp only at j1 j2 j3 j4 ⊢
  have w4:a3P x4=x4:=a7n (by omega) (by omega)
  have w5:a3P x5=x5:=a7n (by omega) (by omega)
  have w6:a3P x6=x6:=a7n (by omega) (by omega)
  rw [w4,w5,w6]
  unfold a2c
  refine O3 (fun m v=>∃ (sx:A4) (ps:List Int),m<=2/\ps.length + m<=2/\a8Z L (k + 19 - m) sx/\s.2 < sx.2/\v=((m:Int),sx,ex,key,nm,x4,x5,x6,x7,x8,x9,l',ps)) ?_ (n:=x10.toNat) ⟨s10,[],by omega,by simp;omega,j1.le (by omega),by omega,by rw [Int.toNat_of_nonneg (by omega)]⟩ (by omega)
  rintro m v ⟨sx,ps,hm,hps,hsx,hlt2,rfl⟩
  dsimp only
  have w0:C6 ((m:Int) - 1)=(m:Int) - 1:=E4 (by omega) (by omega)
  simp only [a0s,w0,D2,F8,C2,B9,C9,D4,decide_eq_true_eq,decide_eq_false_iff_not]
  refine⟨fun h=>?_,fun h=>?_⟩
  ·refine(R6 hsx (by omega) (by omega) (by omega)).mono ?_
   rintro⟨s11,x11⟩ ⟨k1,k2,k3,k4⟩
   dsimp only at k1 k2 k3 k4 ⊢
   refine⟨⟨by unfold LIM;omega,by unfold LEN;omega⟩,m - 1,by omega,s11,ps ++ [C6 (1 + x11)],by omega,?_,k1.le (by omega),by omega,?_⟩
   ·simp;omega
   ·have:((m - 1:Nat):Int)=(m:Int) - 1:=by omega
    rw [this]
  ·exact⟨hsx.le (by omega),hlt2,⟨hl,a3.1,⟨b3,b4⟩,⟨c3,c4⟩,⟨d3,d4⟩,⟨e3,e4⟩,⟨f3,f4⟩,⟨i3,by dsimp only;omega⟩,by dsimp only;omega⟩,i4,a3.2⟩
end Go.Proofs.YtacnfjjkhpkloaaGreat.Am
