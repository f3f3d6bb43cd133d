/- The statements about layer 20 hold of plain data. No conditions. -/
import Derived.Test.YtacnfjjkhpkloaaGreatQAX
import Derived.Test.YtacnfjjkhpkloaaGreatQAQ
import Derived.Test.YtacnfjjkhpkloaaGreatQAP
import Derived.KernelRfl
namespace Go.Proofs.YtacnfjjkhpkloaaGreat.Am
open Go
def kcf:a2r:=(2,10,5,(0:Int),1,(0:Int),false,10,(-1),(0:Int),(0:Int),1)
def k1:ED:=(D5 1 [97] 1 5).getD e0
def k2:ED:=(D5 2 [97] 1 5).getD e0
def k3:ED:=(D5 3 [97] 0 9).getD e0
def k4:ED:=(D5 4 [98] 0 9).getD e0
theorem c86:D5 1 [97] 1 5=some k1:=by kernel_rfl
theorem c87:D5 2 [97] 1 5=some k2:=by kernel_rfl
theorem c88:D5 3 [97] 0 9=some k3:=by kernel_rfl
theorem c89:D5 4 [98] 0 9=some k4:=by kernel_rfl
theorem d0t:k1.2=([1],[97],(1:Int),(0:Int),(5:Int),(0:Int),(0:Int),(1:Int),[]):=by kernel_rfl
theorem d0u:k2.2=([2],[97],(1:Int),(0:Int),(5:Int),(0:Int),(0:Int),(2:Int),[]):=by kernel_rfl
theorem d0v:k3.2=([3],[97],(0:Int),(0:Int),(9:Int),(0:Int),(0:Int),(3:Int),[]):=by kernel_rfl
theorem d0w:k4.2=([4],[98],(0:Int),(0:Int),(9:Int),(0:Int),(0:Int),(4:Int),[]):=by kernel_rfl
theorem b2C {e:ED} {b:UInt8} {s:List UInt8} {q g pr h t o:Int} (he:e.2=([b],s,q,g,pr,h,t,o,[])) (hs:s.length<=60) (hq:0<=q/\q < 18446744073709551616):c7K e:=by
 obtain⟨k,e2⟩:=e
 dsimp only at he
 subst he
 exact⟨⟨by dsimp only [List.length];omega,by dsimp only [List.length];omega⟩,by show 1<=1000;omega,hs,hq.1,hq.2⟩
theorem c0O:a5I kcf:=⟨by decide,by decide⟩
theorem c0P:D8=some true:=by
 have hR:b49 kcf:=c0O.range ⟨by decide,by decide⟩
 have e0:a0W kcf=some (c3l (a80 kcf)):=by
  have:=b6G hR
  unfold b6F at this
  rwa [if_pos c0O] at this
 have h0:=c3m c0O
 obtain⟨p1,L1,a1,h1,b1,c1⟩:=h0.insert (by omega) (b2C d0t (by decide) (by decide))
 have i1:a7s kcf [] k1=([k1],0):=by kernel_rfl
 have a1:c3k (a80 kcf) k1=some (a2F p1 (a7s kcf [] k1).2):=a1
 have b1:L1.map J2=(a7s kcf [] k1).1:=b1
 have c1:p1.cf=kcf:=c1
 rw [i1] at a1 b1
 dsimp only at a1 b1
 obtain⟨p2,L2,a2,h2,b2,c2⟩:=h1.insert (by omega) (b2C d0u (by decide) (by decide))
 rw [b1,c1] at a2 b2
 rw [c1] at c2
 have i2:a7s kcf [k1] k2=([k1],9):=by kernel_rfl
 rw [i2] at a2 b2
 dsimp only at a2 b2
 obtain⟨p3,L3,a3,h3,b3,c3⟩:=h2.insert (by omega) (b2C d0v (by decide) (by decide))
 rw [b2,c2] at a3 b3
 rw [c2] at c3
 have i3:a7s kcf [k1] k3=([k1,k3],0):=by kernel_rfl
 rw [i3] at a3 b3
 dsimp only at a3 b3
 obtain⟨p4,L4,a4,h4,b4,c4⟩:=h3.insert (by omega) (b2C d0w (by decide) (by decide))
 rw [b3,c3] at a4 b4
 rw [c3] at c4
 have i4:a7s kcf [k1,k3] k4=([k1,k3],24):=by kernel_rfl
 rw [i4] at a4 b4
 dsimp only at a4 b4
 have d1:=h4.sorted_ok (by omega)
 have d2:=h4.sender_ok (by omega) [97]
 have d3:=h4.expired_ok (by omega) 2 0
 have d4:=h4.expired_ok (by omega) 1 0
 have d5:=h4.lenP
 have d6:=h4.bytP (by omega)
 have hl:L4.length=2:=by
  have:=congrArg List.length b4
  rwa [List.length_map] at this
 rw [b4] at d1 d2 d3 d4 d6
 rw [c4] at d3 d4
 rw [hl] at d5
 have j1:a5p [k1,k3]=[k3,k1]:=by kernel_rfl
 have j2:a7o [k1,k3] [97]=[k3,k1]:=by kernel_rfl
 have j3:(a8u kcf [k1,k3] 2 0).length=2:=by kernel_rfl
 have j4:(a8u kcf [k1,k3] 1 0).length=0:=by kernel_rfl
 have j5:P0 [k1,k3]=2:=by kernel_rfl
 have j6:(List.getD [k3,k1] 0 B7).2.2.2.2.2.2.2.2.1=3:=by kernel_rfl
 have j7:(List.getD [k3,k1] 0 B7).2.2.2.1=0:=by kernel_rfl
 rw [j1] at d1
 rw [j2] at d2
 rw [j5] at d6
 unfold c3k at a1 a2 a3 a4
 unfold Am.sortP at d1
 unfold c0H at d2
 unfold c7L at d3 d4
 unfold lenP at d5
 unfold bytP at d6
 unfold D8
 have e0':a0W (2,10,5,(0:Int),1,(0:Int),false,10,(-1),(0:Int),(0:Int),1)=some (c3l (a80 kcf)):=e0
 rw [e0',Option.bind_some,c86,Option.bind_some]
 unfold c3l
 dsimp only
 rw [a1,Option.bind_some,c87,Option.bind_some]
 unfold a2F
 dsimp only
 rw [a2,Option.bind_some,c88,Option.bind_some]
 unfold a2F
 dsimp only
 rw [a3,Option.bind_some,c89,Option.bind_some]
 unfold a2F
 dsimp only
 rw [a4,Option.bind_some]
 unfold a2F
 dsimp only
 rw [d1,Option.bind_some]
 unfold a2F
 dsimp only
 rw [d2,Option.bind_some]
 unfold a2F
 dsimp only
 rw [show decide ((0:Int)=0)=true from rfl,U3,show decide ((9:Int)=9)=true from rfl,U3,U3,show decide ((24:Int)=24)=true from rfl,U3]
 rw [show decide ((((List.length [k3,k1]):Nat):Int)=2)=true from rfl,U3,show decide ((0:Int)<=0/\(0:Int) < (((List.length [k3,k1]):Nat):Int))=true from rfl,M5,show decide (0 < List.length [k3,k1])=true from rfl,M5,decide_eq_true j6,U3,U3,M5,M5,decide_eq_true j7,U3]
 rw [d3,Option.bind_some]
 unfold a2F
 dsimp only
 rw [j3,show decide (((2:Nat):Int)=2)=true from rfl,U3,d4,Option.bind_some]
 unfold a2F
 dsimp only
 rw [j4,show decide (((0:Nat):Int)=0)=true from rfl,U3,d5,Option.bind_some]
 unfold a2F
 dsimp only
 rw [show decide (((2:Nat):Int)=2)=true from rfl,U3,d6,Option.bind_some]
 rfl
theorem a6c:Ok (D8.bind fun r=>some r) (· =true):=⟨true,by rw [c0P];rfl,rfl⟩
theorem c3n {l:List (List Int)} (hl:l.length<=10) (hx:∀ x ∈ l,x.length<=1000000000000000):H0 l=some (decide (160 < (l.map List.length).sum)):=by
 refine a1q.1 ?_
 unfold H0 a15
 have hB0:=c0n List.length 1000000000000000 l hx
 have hB1:l.length * 1000000000000000<=10 * 1000000000000000:=Nat.mul_le_mul_right _ hl
 refine O4 l (fun i (j:Nat)=>(((j:Nat):Int),l,((l.length:Nat):Int),((i:Nat):Int))) (fun i j=>j=((l.take i).map List.length).sum) (fun i j hi hinv=>?_) (fun j hinv=>?_) (b0:=0) (by simp) (by omega)
 ·have h2:((l.take (i + 1)).map List.length).sum=j + l[i].length:=by rw [M2 hi,List.map_append,List.sum_append,hinv];simp
  have h3:=a6s List.length l (i + 1)
  simp only [T3,H2 (i:=i) (by omega),D2,F8,B9,C9,D4,decide_eq_true_eq,decide_eq_false_iff_not,Int.toNat_natCast,R4 hi]
  have h5:C6 ((j:Int) + ((l[i].length:Nat):Int))=((j + l[i].length:Nat):Int):=by rw [E4] <;> omega
  rw [h5]
  exact⟨fun _=>⟨by omega,j + l[i].length,rfl,h2.symm⟩,fun h=>by omega⟩
 ·rw [List.take_length] at hinv
  simp only [T3,D2,F8,B9,C9,D4,decide_eq_true_eq,decide_eq_false_iff_not,Int.toNat_natCast]
  refine⟨fun h=>by omega,fun _=>?_⟩
  rw [decide_eq_decide,<-hinv];omega
end Go.Proofs.YtacnfjjkhpkloaaGreat.Am
