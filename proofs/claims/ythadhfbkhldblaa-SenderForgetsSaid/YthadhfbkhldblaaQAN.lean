/- Texts laid together: PNum, PSameI. No conditions. -/
import Derived.Test.YthadhfbkhldblaaQAM
import Derived.Test.YthadhfbkhldblaaFAll
import Derived.Test.YthadhfbkhldblaaQAK
namespace Go.Proofs.Ythadhfbkhldblaa.Am
open Go
theorem b5q {s:o6} {n:Int} (hn:1<=n) (hn2:n<=4611686018427387904) (h0:0<=s.2) (h1:s.2 < 4611686018427387904):Ok (A6 s n) fun r=>r.1.1=s.1/\r.1.2=s.2 + 1/\0<=r.2/\r.2 < n:=by
 have hw:I9 (s.2 + 1)=s.2 + 1:=Y3 (by omega) (by omega)
 have hp:∀ x,Ok (B7 n x s) fun r=>r.1.1=s.1/\r.1.2=s.2 + 1/\0<=r.2/\r.2 < n:=fun x=>by
  unfold B7
  rw [B5]
  refine(b3K hn hn2).mono fun r hr=>?_
  rw [A7,hw]
  exact⟨rfl,rfl,hr.1,hr.2.1⟩
 simp only [A6,B3,N9,decide_eq_true_eq,decide_eq_false_iff_not]
 exact⟨fun h=>⟨⟨h0,h⟩,hp _⟩,fun _=>hp _⟩
def a92 (L:List Int) (k:Int) (s:o6):Prop:=s.1=L/\0<=s.2/\s.2<=k
theorem a4V {L:List Int} {k:Int} {s:o6} {n:Int} (hs:a92 L k s) (hn:1<=n) (hn2:n<=4611686018427387904) (hk:k < 4611686018427387904):Ok (A6 s n) fun r=>a92 L (k + 1) r.1/\s.2 < r.1.2/\0<=r.2/\r.2 < n:=by
 obtain⟨h1,h2,h3⟩:=hs
 refine(b5q hn hn2 h2 (by omega)).mono fun r hr=>?_
 obtain⟨a1,a2,a3,a4⟩:=hr
 exact⟨⟨a1.trans h1,by omega,by omega⟩,by omega,a3,a4⟩
theorem a92.le {L:List Int} {k m:Int} {s:o6} (h:a92 L k s) (hkm:k<=m):a92 L m s:=⟨h.1,h.2.1,by have:=h.2.2;omega⟩
def b3L (L:List Int):o6:=(L,0)
theorem b5r (L:List Int):S4 L=some (b3L L):=rfl
theorem b7R (L:List Int):a92 L 0 (b3L L):=⟨rfl,Int.le_refl _,Int.le_refl _⟩
end Go.Proofs.Ythadhfbkhldblaa.Am
namespace Go.Proofs.Ythadhfbkhldblaa.Am
open Go
theorem T2 {l:List Int} (h:l.length < 9223372036854775807):B4 l l=some true:=by
 refine a1N.1 ?_
 simp only [B4,B3,A7,decide_eq_true_eq,decide_eq_false_iff_not,Bool.not_eq_true',Bool.not_eq_false']
 refine⟨fun h=>(h trivial).elim,fun _=>?_⟩
 unfold P5
 refine O0 l (fun i (_:Unit)=>(l,l,((l.length:Nat):Int),((i:Nat):Int))) (fun _ _=>True) (fun i b hi _=>?_) (fun b _=>?_) (b0:=()) trivial (by omega)
 ·simp only [G9,S9 (i:=i) (by omega),B3,N9,A7,C9,H2,decide_eq_true_eq,decide_eq_false_iff_not,Bool.not_eq_true',Bool.not_eq_false',Int.toNat_natCast]
  refine⟨fun _=>⟨by omega,by omega,?_⟩,fun h=>by omega⟩
  simp
 ·simp only [G9,B3,N9,A7,C9,H2,decide_eq_true_eq,decide_eq_false_iff_not,Bool.not_eq_true',Bool.not_eq_false',Int.toNat_natCast]
  exact⟨fun h=>by omega,fun _=>trivial⟩
end Go.Proofs.Ythadhfbkhldblaa.Am
