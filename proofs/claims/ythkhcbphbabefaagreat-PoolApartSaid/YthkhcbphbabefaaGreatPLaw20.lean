/- The statements about layer 20 hold of plain data. No conditions. -/
import Derived.Test.YthkhcbphbabefaaGreatQAG
import Derived.Test.YthkhcbphbabefaaGreatQAF
import Derived.Test.YthkhcbphbabefaaGreatQAE
import Derived.KernelRfl
namespace Go.Proofs.YthkhcbphbabefaaGreat.Am
open Go
def kcf:eu:=(2,10,5,(0:Int),1,(0:Int),false,10,(-1),(0:Int),(0:Int),1)
def k1:ED:=(C1 1 [97] 1 5).getD e0
def k2:ED:=(C1 2 [97] 1 5).getD e0
def k3:ED:=(C1 3 [97] 0 9).getD e0
def k4:ED:=(C1 4 [98] 0 9).getD e0
theorem Nx:C1 1 [97] 1 5=some k1:=by kernel_rfl
theorem Ny:C1 2 [97] 1 5=some k2:=by kernel_rfl
theorem Nz:C1 3 [97] 0 9=some k3:=by kernel_rfl
theorem NA:C1 4 [98] 0 9=some k4:=by kernel_rfl
theorem Pz:k1.2=([1],[97],(1:Int),(0:Int),(5:Int),(0:Int),(0:Int),(1:Int),[]):=by kernel_rfl
theorem PA:k2.2=([2],[97],(1:Int),(0:Int),(5:Int),(0:Int),(0:Int),(2:Int),[]):=by kernel_rfl
theorem PB:k3.2=([3],[97],(0:Int),(0:Int),(9:Int),(0:Int),(0:Int),(3:Int),[]):=by kernel_rfl
theorem PC:k4.2=([4],[98],(0:Int),(0:Int),(9:Int),(0:Int),(0:Int),(4:Int),[]):=by kernel_rfl
theorem pZ{e:ED}{b:UInt8}{s:List UInt8}{q g pr h t o:Int}(he:e.2=([b],s,q,g,pr,h,t,o,[])) (hs:s.length<=60) (hq:0<=q/\q<18446744073709551616):LF e:=by
 obtain⟨k,e2⟩:=e;dsimp only at he;subst he;exact⟨⟨by dsimp only[List.length];omega,by dsimp only[List.length];omega⟩,by show 1<=1000;omega,hs,hq.1,hq.2⟩
theorem BJ:hU kcf:=⟨by decide,by decide⟩
theorem rD:L8=some true:=by
 have hR:KS kcf:=BJ.range ⟨by decide,by decide⟩;have e0:ap kcf=some (Ip (P6 kcf)):=by
  have:=FB hR;unfold LG at this
  rwa [Qx BJ]at this
 have h0:=FA BJ;obtain⟨p1,L1,a1,h1,b1,c1⟩:=h0.insert (by omega) (pZ Pz (by decide) (by decide));have i1:mV kcf [] k1=([k1],0):=by kernel_rfl
 have a1:LC (P6 kcf) k1=some (jg p1 (mV kcf [] k1).2):=a1;have b1:L1.map bN=(mV kcf [] k1).1:=b1;have c1:p1.cf=kcf:=c1;rw[i1]at a1 b1;dsimp only at a1 b1;obtain⟨p2,L2,a2,h2,b2,c2⟩:=h1.insert (by omega) (pZ PA (by decide) (by decide));rw[b1,c1]at a2 b2;rw[c1]at c2;have i2:mV kcf [k1] k2=([k1],9):=by kernel_rfl
 rw[i2]at a2 b2;dsimp only at a2 b2;obtain⟨p3,L3,a3,h3,b3,c3⟩:=h2.insert (by omega) (pZ PB (by decide) (by decide));rw[b2,c2]at a3 b3;rw[c2]at c3;have i3:mV kcf [k1] k3=([k1,k3],0):=by kernel_rfl
 rw[i3]at a3 b3;dsimp only at a3 b3;obtain⟨p4,L4,a4,h4,b4,c4⟩:=h3.insert (by omega) (pZ PC (by decide) (by decide));rw[b3,c3]at a4 b4;rw[c3]at c4;have i4:mV kcf [k1,k3] k4=([k1,k3],24):=by kernel_rfl
 rw[i4]at a4 b4;dsimp only at a4 b4;have d1:=h4.sorted_ok (by omega);have d2:=h4.sender_ok (by omega) [97];have d3:=h4.expired_ok (by omega) 2 0;have d4:=h4.expired_ok (by omega) 1 0;have d5:=h4.lenP;have d6:=h4.bytP (by omega);have hl:L4.length=2:=by
  have:=congrArg List.length b4
  rwa [PR]at this
 rw[b4]at d1 d2 d3 d4 d6;rw[c4]at d3 d4;rw[hl]at d5;have j1:DZ [k1,k3]=[k3,k1]:=by kernel_rfl
 have j2:xF [k1,k3] [97]=[k3,k1]:=by kernel_rfl
 have j3:(Br kcf [k1,k3] 2 0).length=2:=by kernel_rfl
 have j4:(Br kcf [k1,k3] 1 0).length=0:=by kernel_rfl
 have j5:bG [k1,k3]=2:=by kernel_rfl
 have j6:(List.getD [k3,k1] 0 Q9).2.2.2.2.2.2.2.2.1=3:=by kernel_rfl
 have j7:(List.getD [k3,k1] 0 Q9).2.2.2.1=0:=by kernel_rfl
 rw[j1]at d1;rw[j2]at d2;rw[j5]at d6;unfold LC at a1 a2 a3 a4;unfold Am.sortP at d1;unfold BH at d2;unfold Nw at d3 d4;unfold lenP at d5;unfold bytP at d6;unfold L8;have e0':ap (2,10,5,(0:Int),1,(0:Int),false,10,(-1),(0:Int),(0:Int),1)=some (Ip (P6 kcf)):=e0;rw[e0',PS,Nx,PS];unfold Ip;dsimp only;rw[a1,PS,Ny,PS];unfold jg;dsimp only;rw[a2,PS,Nz,PS];unfold jg;dsimp only;rw[a3,PS,NA,PS];unfold jg;dsimp only;rw[a4,PS];unfold jg;dsimp only;rw[d1,PS];unfold jg;dsimp only;rw[d2,PS];unfold jg;dsimp only;rw[show decide ((0:Int)=0)=true from rfl,aZ,show decide ((9:Int)=9)=true from rfl,aZ,aZ,show decide ((24:Int)=24)=true from rfl,aZ];rw[show decide ((((List.length [k3,k1]):Nat):Int)=2)=true from rfl,aZ,show decide ((0:Int)<=0/\(0:Int)<(((List.length [k3,k1]):Nat):Int))=true from rfl,aC,show decide (0<List.length [k3,k1])=true from rfl,aC,PT j6,aZ,aZ,aC,aC,PT j7,aZ];rw[d3,PS];unfold jg;dsimp only;rw[j3,show decide (((2:Nat):Int)=2)=true from rfl,aZ,d4,PS];unfold jg;dsimp only;rw[j4,show decide (((0:Nat):Int)=0)=true from rfl,aZ,d5,PS];unfold jg;dsimp only;rw[show decide (((2:Nat):Int)=2)=true from rfl,aZ,d6,PS];rfl
theorem Lf{l:List (List Int)}(hl:l.length<=10) (hx:∀x∈l,x.length<=1000000000000000):J3 l=some (decide (160<(l.map List.length).sum)):=by
 refine iZ.1 ?_;unfold J3 aQ;have hB0:=Bn List.length 1000000000000000 l hx;have hB1:l.length*1000000000000000<=10*1000000000000000:=QA _ hl;refine eI l (λi (j:Nat)=>(((j:Nat):Int),l,((l.length:Nat):Int),((i:Nat):Int))) (λi j=>j=((l.take i).map List.length).sum) (λi j hi hinv=>?_) (λj hinv=>?_) (b0:=0) (by simp) (by omega)
 ·have h2:((l.take (i+1)).map List.length).sum=j+l[i].length:=by rw[cu hi,PV,So,hinv];simp
  have h3:=pM List.length l (i+1);simp only[N1,Y4 (i:=i) (by omega),K6,M1,C6,F9,E5,PX,Qa,PY,eJ hi];have h5:D1 ((j:Int)+((l[i].length:Nat):Int))=((j+l[i].length:Nat):Int):=by rw[I4] <;> omega
  rw[h5];exact⟨λ_=>⟨by omega,j+l[i].length,rfl,h2.symm⟩,λh=>by omega⟩
 ·rw[Ro]at hinv;simp only[N1,K6,M1,C6,F9,E5,PX,Qa,PY];refine⟨λh=>by omega,λ_=>?_⟩;rw[decide_eq_decide,<-hinv];omega
end Go.Proofs.YthkhcbphbabefaaGreat.Am
