/- Texts laid together: PSort, PAtE, PHasI, PTot, PName, PLedV, PLedF, PLedS, PLedO, PAppS, PLen, PDiv, PDiv64. No conditions. -/
import Derived.Test.YtjbgdpjgfjnkbaaGreatDoorFAll
import Derived.KernelRfl
import Derived.Test.YtjbgdpjgfjnkbaaGreatDoorQAB
import Derived.Lib.Mul64
namespace Go.Proofs.YtjbgdpjgfjnkbaaGreatDoor.Am
open Go
def ZM(x y:Int):Int:=if x<y then -1 else if y<x then 1 else 0
theorem a30(x y:Int):fZ x y=some (ZM x y):=by
 refine J1.1 ?_;simp only[fZ,jf,A5,A4,A1,a5M,a5L,a5R,a5Q,ZM];refine⟨λh=>(h trivial).elim,λ_=>⟨λh=>(h trivial).elim,λ_=>⟨λh=>by rw[a5W h],λh=>⟨λh2=>by rw[a5U h,a5W h2],λh2=>by rw[a5U h,a5U h2]⟩⟩⟩⟩
def cE(a b:o6):Int:=if ZM b.2.2.2.2.2.1 a.2.2.2.2.2.1=0 then ZM a.2.2.2.2.2.2.2.2.1 b.2.2.2.2.2.2.2.2.1 else ZM b.2.2.2.2.2.1 a.2.2.2.2.2.1
theorem IM{a b:o6}:ltc cE a b=true↔b.2.2.2.2.2.1<a.2.2.2.2.2.1\/(a.2.2.2.2.2.1=b.2.2.2.2.2.1/\a.2.2.2.2.2.2.2.2.1<b.2.2.2.2.2.2.2.2.1):=by
 unfold ltc cE ZM;rw[a5M];generalize a.2.2.2.2.2.1=x;generalize b.2.2.2.2.2.1=y;generalize a.2.2.2.2.2.2.2.2.1=p;generalize b.2.2.2.2.2.2.2.2.1=q;by_cases h1:y<x
 ·simp[h1]
 ·by_cases h2:x<y
  ·simp[h1,h2];omega
  ·simp only[h1,h2,a6o,a6x];by_cases h3:p<q
   ·simp[h3];omega
   ·by_cases h4:q<p <;> simp[h3,h4]
theorem zk{a b:o6}:ltc cE a b=false↔¬(b.2.2.2.2.2.1<a.2.2.2.2.2.1\/(a.2.2.2.2.2.1=b.2.2.2.2.2.1/\a.2.2.2.2.2.2.2.2.1<b.2.2.2.2.2.2.2.2.1)):=by
 rw[<-IM,Bool.not_eq_true]
theorem a5C:Swo (ltc cE):=⟨λa=>by rw[zk];omega,λa b h=>by rw[IM]at h;rw[zk];omega,λa b c h k=>by rw[zk]at h k⊢;omega⟩
def AI(l:List o6):List o6:=AG (ltc cE) l
def a31(e:o6):Prop:=e.2.1.length<=140737488351232/\e.2.2.2.2.2.2.2.2.2.length*8<=140737488351232
def a11(l:List o6):Prop:=l.length*144<=140737488351232/\∀e∈l,a31 e
theorem AJ{u:U}{by_:Nat}{l:List u.den}(h:l.length*by_<=140737488351232) (hb:1<=by_):wD by_ l=some l:=by
 unfold wD;have h1:l.length*1<=l.length*by_:=Nat.mul_le_mul_left _ hb;rw[a6j,a5H (by unfold LIM LEN;omega)];rfl
theorem pA{n:Nat}(h:n<=977343669105):n*144<=LIM/\n<=LEN:=by unfold LIM LEN;omega
theorem IN{e:o6}(h:a31 e):pk e=some e:=by
 have h1:lE e.2.1=some e.2.1:=AJ (u:=.byte) (by_:=1) (by rw[Nat.mul_one];exact h.1) (by omega);have h2:mJ e.2.2.2.2.2.2.2.2.2=some e.2.2.2.2.2.2.2.2.2:=AJ (u:=.int .i64) (by_:=8) h.2 (by omega);simp only[pk,h1,h2,a5I]
theorem Ed{l:List o6}(h:a11 l):oO l=some l:=by
 refine J1.1 ?_;obtain⟨h1,h2⟩:=h;unfold oO qM;refine C8 l (λi (acc:List o6)=>(l,((l.length:Nat):Int),((i:Nat):Int),acc)) (λi acc=>acc=l.take i) (λi acc hi hinv=>?_) (λacc hinv=>?_) (b0:=[]) rfl (by omega)
 ·subst hinv;have he:pk (l.getD i B2)=some (l.getD i B2):=IN (h2 _ (by rw[C9 hi];exact a5V hi));simp only[kP,C1 (i:=i) (by omega),he,A5,D8,A4,A1,A8,B5,a5M,a5L,a5J];refine⟨λ_=>⟨by omega,⟨by rw[a5T];unfold LIM;omega,by rw[a5T];unfold LEN;omega⟩,_,rfl,?_⟩,λh=>by omega⟩;rw[E4 hi,C9 hi]
 ·subst hinv;simp only[kP,A5,D8,A4,A1,A8,B5,a5M,a5L,a5J];exact⟨λh=>by omega,λ_=>by rw[a52]⟩
theorem AK(l:List o6):(AI l).length=l.length:=Qn _ l
theorem Gb{l:List o6}{e:o6}:e∈AI l↔e∈l:=Qo a5C
theorem Gc{e:o6}{v7:List o6}{v8:Int}{i:Nat}{out:List o6}(hl:out.length<977343669105) (hi:i<1000000000000):fM ((out.length:Nat):Int) v7 v8 (i:Int) e out=some (.inl (v7,v8,((i+1:Nat):Int),BD (ltc cE) e out)):=by
 unfold fM;refine J1.1 (L5 (λn v=>∃s t,s.length=n/\out=s++t/\BD (ltc cE) e out=BD (ltc cE) e s++t/\v=(((s.length:Nat):Int),v7,v8,(i:Int),e,out)) ?_ ⟨out,[],rfl,by simp,by simp,rfl⟩ (by omega));rintro n v ⟨s,t,rfl,rfl,hins,rfl⟩;simp only[a5K]at hl;have place:BD (ltc cE) e s=s++[e]->Ok (Q6 ((s.length:Nat):Int) v7 v8 (i:Int) e (s++t)) λr=>r= .inl (v7,v8,((i+1:Nat):Int),BD (ltc cE) e (s++t)):=λhp=>by
  have e1:(s++t).take s.length=s:=a6H;have e2:((s++t).take (Int.toNat (((List.length (s++t)):Nat):Int))).drop s.length=t:=by rw[a5J,a52,a6s]
  have e3:(s++[e]).length=s.length+1:=by rw[a5K];rfl
  have e4:(s++t).length=s.length+t.length:=a5K;simp only[Q6,C1 (i:=i) (by omega),D8,A1,a5M];rw[a5J (n:=s.length),e2,e1,e3,e4];refine⟨by omega,pA (by omega),pA (by omega),by omega,pA (by omega),?_⟩;rw[hins,hp]
 dsimp only;rcases a66 s.length with h0|h0
 ·have:=a6f h0;subst this;simp only[bM,A5,C4,a5M,a5L];exact⟨λh=>by simp at h,λ_=>place (by rw[KR];rfl)⟩
 ·obtain⟨s2,y,rfl⟩:=Uy h0;have e3:(s2++[y]).length=s2.length+1:=by rw[a5K];rfl
  rw[e3]at hl;have w0:B3 ((((s2++[y]).length:Nat):Int)-1)=((s2.length:Nat):Int):=by rw[e3,D9] <;> omega
  have e5:(s2++[y]++t)=s2++y::t:=by rw[a50];rfl
  have gy:(s2++[y]++t).getD s2.length B2=y:=by rw[e5];exact Yy rfl
  have e4:(s2++[y]++t).length=s2.length+1+t.length:=by rw[a5K,e3]
  have hlt:=IM (a:=e) (b:=y);have go:ltc cE e y=true->∃m,m<(s2++[y]).length/\∃s t',s.length=m/\s2++[y]++t=s++t'/\BD (ltc cE) e (s2++[y]++t)=BD (ltc cE) e s++t'/\(((s2.length:Nat):Int),v7,v8,(i:Int),e,s2++[y]++t)=(((s.length:Nat):Int),v7,v8,(i:Int),e,s2++[y]++t):=λhl=>by
   refine⟨s2.length,by omega,s2,y::t,rfl,e5,?_,rfl⟩;rw[hins,AH,a5W hl,a50];rfl
  have stop:ltc cE e y=false->BD (ltc cE) e (s2++[y])=s2++[y]++[e]:=λhl=>by
   rw[AH,hl,a50];rfl
  have stop':¬(y.2.2.2.2.2.1<e.2.2.2.2.2.1\/(e.2.2.2.2.2.1=y.2.2.2.2.2.1/\e.2.2.2.2.2.2.2.2.1<y.2.2.2.2.2.2.2.2.1))->ltc cE e y=false:=λh=>zk.2 h;simp only[bM,w0,A5,D8,A1,C4,A8,B5,a5M,a5L,a5J,gy,e4];refine⟨λ_=>⟨by omega,by omega,λh1=>go (hlt.2 (.inl h1)),λh1=>⟨by omega,by omega,λh2=>⟨by omega,by omega,λh3=>go (hlt.2 (.inr ⟨h2.symm,h3⟩)),λh3=>place (stop (stop' (by omega)))⟩,λh2=>place (stop (stop' (by omega)))⟩⟩,λh=>by omega⟩
theorem Gd{l:List o6}(h:l.length*144<=140737488351232):fq l=some (AI l):=by
 refine J1.1 ?_;unfold fq kG;refine C8 l (λi (acc:List o6)=>(l,((l.length:Nat):Int),((i:Nat):Int),acc)) (λi acc=>acc=AI (l.take i)) (λi acc hi hinv=>?_) (λacc hinv=>?_) (b0:=[]) rfl (by omega)
 ·subst hinv;have hlen:(AI (l.take i)).length=i:=by rw[AK,a5T];omega
  have h3:=Gc (e:=l.getD i B2) (v7:=l) (v8:=((l.length:Nat):Int)) (i:=i) (out:=AI (l.take i)) (by omega) (by omega);simp only[bN,A5,D8,A1,B5,a5M,a5L,a5J,h3];refine⟨λ_=>⟨by omega,?_⟩,λh=>by omega⟩;rw[A8];refine⟨_,rfl,?_⟩;rw[E4 hi,C9 hi];show BD (ltc cE) l[i] (AG (ltc cE) (l.take i))=AG (ltc cE) (l.take i++[l[i]]);rw[xJ]
 ·subst hinv;simp only[bN,A5,D8,A1,B5,a5M,a5L,a5J];exact⟨λh=>by omega,λ_=>by rw[a52]⟩
abbrev ED:=o6
abbrev KD:=Vector UInt8 32
theorem WU(a b:KD):U.beq (.arr 32 .byte) a b=decide (a=b):=by
 have h:U.beq (.arr 32 .byte) a b=true↔@Eq KD a b:=U.beq_iff (.arr 32 .byte) _ rfl a b;by_cases e:a=b
 ·rw[a5H e];exact h.2 e
 ·rw[a5N e,<-Bool.not_eq_true];exact λk=>e (h.1 k)
def isK(k:KD) (e:ED):Bool:=decide (e.1=k)
def atE(l:List ED) (k:KD):Int:=((l.findIdx? (isK k)).map λ(i:Nat)=>(i:Int)).getD (-1)
theorem IP{l:List ED}(hl:l.length<=1000000) (k:KD):S7 l k=some (atE l k):=by
 refine J1.1 ?_;unfold S7 nD;refine C8 l (λi (_:Unit)=>(l,((l.length:Nat):Int),((i:Nat):Int),k)) (λi _=>∀e∈l.take i,isK k e=false) (λi _ hi hne=>?_) (λ_ hne=>?_) (b0:=()) (by simp) (by omega)
 ·simp only[fT,C1 (i:=i) (by omega),A5,D8,A1,A8,B5,a5M,a5L,a5J,C9 hi,WU];refine⟨λ_=>⟨by omega,λhk=>?_,λhk=>⟨(),trivial,λe he=>?_⟩⟩,λh=>by omega⟩
  ·have:l.findIdx? (isK k)=some i:=by
    rw[List.findIdx?_eq_some_iff_getElem];refine⟨hi,a5H hk,λj hj=>?_⟩;have:=hne l[j] (List.mem_take_iff_getElem.2 ⟨j,by omega,rfl⟩);rw[this];decide
   unfold atE;rw[this];rfl
  ·rw[E4 hi]at he;rcases List.mem_append.1 he with he|he
   ·exact hne e he
   ·rw[List.mem_singleton.1 he];exact a5N hk
 ·rw[a52]at hne;simp only[fT,A5,D8,A1,A8,B5,a5M,a5L,a5J];refine⟨λh=>by omega,λ_=>?_⟩;have:l.findIdx? (isK k)=none:=by rw[List.findIdx?_eq_none_iff];exact hne
  unfold atE;rw[this];rfl
theorem xK{l:List ED}{k:KD}(h:∀e∈l,e.1≠k):atE l k= -1:=by
 unfold atE;have:l.findIdx? (isK k)=none:=List.findIdx?_eq_none_iff.2 λe he=>a5N (h e he);rw[this];rfl
theorem xL{l:List ED}{k:KD}(h:∃e∈l,e.1=k):∃i:Nat,atE l k=(i:Int)/\l.findIdx? (isK k)=some i/\∃hi:i<l.length,l[i].1=k:=by
 cases hf:l.findIdx? (isK k) with
 |none=>
  obtain⟨e,he,hk⟩:=h;have:=List.findIdx?_eq_none_iff.1 hf e he;unfold isK at this;rw[a5H hk]at this;cases this
 |some i=>
  obtain⟨hi,h1,_⟩:=List.findIdx?_eq_some_iff_getElem.1 hf;exact⟨i,by unfold atE;rw[hf];rfl,rfl,hi,a5P h1⟩
theorem Cu{l:List ED}(hl:l.length<=1000000){i:Nat}(hi:i<l.length):ef l (i:Int)=some (l.eraseIdx i):=by
 refine J1.1 ?_;have e1:(l.take (Int.toNat ((l.length:Nat):Int))).drop (i+1)=l.drop (i+1):=by rw[a5J,a52]
 simp only[ef,C1 (i:=i) (by omega),D8,A1,a5M,a5J,a5T,a5Y,a52];refine⟨by omega,pA (by omega),by omega,pA (by omega),?_⟩;rw[a7R]
theorem Ge{l:List Int}(hl:l.length<=1000000) (x:Int):cx l x=some (decide (x∈l)):=by
 refine J1.1 ?_;unfold cx lA;refine C8 l (λi (_:Unit)=>(x,l,((l.length:Nat):Int),((i:Nat):Int))) (λi _=>x∉l.take i) (λi _ hi hinv=>?_) (λ_ hinv=>?_) (b0:=()) (by simp) (by omega)
 ·simp only[cP,C1 (i:=i) (by omega),A5,D8,A1,A8,B5,a5M,a5L,a5J,C9 hi];refine⟨λ_=>⟨by omega,λh=>?_,λh=>⟨(),trivial,?_⟩⟩,λh=>by omega⟩
  ·subst h;simp
  ·rw[E4 hi,a6Z];rintro(h1|h1)
   ·exact hinv h1
   ·exact h (List.mem_singleton.1 h1).symm
 ·rw[a52]at hinv;simp only[cP,A5,D8,A1,A8,B5,a5M,a5L,a5J];exact⟨λh=>by omega,λ_=>by simp[hinv]⟩
def okU(n:Int):Prop:=0<=n/\n<18446744073709551616
def pJ(l:List o5):Int:=(l.map λa=>a.2.1).sum
def vN(l:List o5):Prop:=∀a∈l,okU a.2.1
theorem AL:∀{l:List Int},(∀x∈l,0<=x)->0<=l.sum
 |[],_=>by simp
 |x::l,h=>by
  have h1:=h x a6M;have h2:=AL (l:=l) λy hy=>h y (a6h _ hy);rw[a63];omega
theorem Yz(l:List Int) (i:Nat):l.sum=(l.take i).sum+(l.drop i).sum:=by
 rw[<-a7n,a6d]
theorem vO{l:List Int}(h:∀x∈l,0<=x) (i:Nat):(l.take i).sum<=l.sum:=by
 have h1:=Yz l i;have h2:=AL (l:=l.drop i) λy hy=>h y (a7E hy);omega
theorem KS{l:List Int}{i:Nat}(h:i<l.length):(l.take (i+1)).sum=(l.take i).sum+l[i]:=by
 rw[E4 h,a7n];simp
def xk(s:Int):Int×Bool:=if s<18446744073709551616 then(s,true) else(0,false)
theorem UC{x y:Int}(hx:0<=x) (hy:0<=y):na x y=some (xk (x+y)):=by
 unfold na xk;rw[a5H (⟨hx,hy⟩:0<=x/\0<=y),B7];by_cases h:x+y<18446744073709551616
 ·rw[a5H h,a5W h];rfl
 ·rw[a5N h,a5U h];rfl
theorem Qp{x y:Int}(hx:okU x) (hy:okU y):gq x y=some (xk (x+y)):=by
 unfold gq xk;unfold okU at hx hy;rw[Q0 (n:=18446744073709551615-y) (by omega) (by omega)];by_cases h:x+y<18446744073709551616
 ·rw[a5N (by omega),D3,a5W h,Q0 (by omega) (by omega)]
 ·rw[a5H (by omega),D1,a5U h]
theorem KT{l:List Int}(h:∀x∈l,okU x) (hl:l.length<=5000000000000):pm l=some (xk l.sum):=by
 have hnn:∀x∈l,0<=x:=λx hx=>(h x hx).1;rw[<-J1];unfold pm sX;refine C8 l (λi (b:Int)=>(b,l,((l.length:Nat):Int),((i:Nat):Int))) (λi b=>b=(l.take i).sum/\okU b) (λi b hi hv=>?_) (λb hv=>?_) (b0:=0) ⟨by simp,by unfold okU;omega⟩ (by omega)
 ·obtain⟨hb,hb1,hb2⟩:=hv;have h1:=h l[i] (a5V hi);have h2:=vO hnn (i+1);have h3:=KS hi;have h4:=h1.1;unfold nn;dsimp only;rw[a5H (by omega:(i:Int)<((l.length:Nat):Int)),D1,a5H (by omega:(0:Int)<=(i:Int)/\(i:Int)<((l.length:Nat):Int)),B7,a5J,C9 hi,UC hb1 h1.1,a5I,C1 (by omega)];unfold xk;by_cases hs:b+l[i]<18446744073709551616
  ·rw[a5W hs];simp only[a6a,D3,A1,A8];exact⟨_,rfl,by rw[h3,hb],by unfold okU;omega⟩
  ·rw[a5U hs];simp only[a6g,D1,A1,B5];rw[a5U (by omega)]
 ·obtain⟨hb,hb1⟩:=hv;rw[a52]at hb;unfold nn;dsimp only;rw[a5N (by omega),D3,A1,B5];unfold xk;rw[a5W (by rw[<-hb];exact hb1.2),hb]
theorem UD{g:o8}(hc:okU g.2) (h:vN g.1) (hl:g.1.length<=4398046511000):np g=some (xk (g.2+pJ g.1)):=by
 obtain⟨l,c⟩:=g;dsimp only at hc h hl⊢;rw[<-J1];unfold np pN;dsimp only;refine C8 l (λi (b:List Int)=>(l,((l.length:Nat):Int),((i:Nat):Int),b)) (λi b=>b=c::(l.take i).map λa=>a.2.1) (λi b hi hv=>?_) (λb hv=>?_) (b0:=[c]) rfl (by omega)
 ·have hbl:b.length=i+1:=by rw[hv];simp only[a54,a5X,a5T];omega
  unfold jP;dsimp only;rw[a5H (by omega:(i:Int)<((l.length:Nat):Int)),D1,a5H (by omega:(0:Int)<=(i:Int)/\(i:Int)<((l.length:Nat):Int)),B7,a5H (by rw[hbl];exact⟨by unfold LIM;omega,by unfold LEN;omega⟩),B7,a5J,C9 hi,A1,A8,C1 (by omega)];exact⟨_,rfl,by rw[E4 hi,a53,hv];rfl⟩
 ·rw[a52]at hv;unfold jP nc;dsimp only;rw[a5N (by omega),D3,KT (l:=b) (by
   rw[hv];intro x hx;rcases List.mem_cons.1 hx with rfl|hx
   ·exact hc
   ·obtain⟨a,ha,rfl⟩:=List.mem_map.1 hx;exact h a ha) (by rw[hv];simp only[a54,a5X];omega),a5I,a6e,A1,B5,hv,a63]
  rfl
theorem Qq{g:o8}(hc:okU g.2) (h:vN g.1) (hl:g.1.length<=4398046511000):ct g=some (xk (g.2+pJ g.1)):=by
 obtain⟨l,c⟩:=g;dsimp only at hc h hl⊢;have hnn:∀x∈(l.map λa=>a.2.1),0<=x:=λx hx=>by
  obtain⟨a,ha,rfl⟩:=List.mem_map.1 hx;exact(h a ha).1
 rw[<-J1];unfold ct ly;dsimp only;refine C8 l (λi (b:Int)=>(b,l,((l.length:Nat):Int),((i:Nat):Int))) (λi b=>b=c+pJ (l.take i)/\okU b) (λi b hi hv=>?_) (λb hv=>?_) (b0:=c) ⟨by simp[pJ],hc⟩ (by omega)
 ·obtain⟨hb,hb1⟩:=hv;have h1:=h l[i] (a5V hi);have h2:=vO hnn (i+1);have h3:pJ (l.take (i+1))=pJ (l.take i)+l[i].2.1:=by unfold pJ;rw[E4 hi,a53,a7n];simp
  have h4:=h1.1;have h5:pJ (l.take (i+1))<=pJ l:=by unfold pJ;rw[a65];exact h2
  have h6:=hb1.1;unfold cN;dsimp only;rw[a5H (by omega:(i:Int)<((l.length:Nat):Int)),D1,a5H (by omega:(0:Int)<=(i:Int)/\(i:Int)<((l.length:Nat):Int)),B7,a5J,C9 hi,Qp hb1 h1,a5I,C1 (by omega)];unfold xk;by_cases hs:b+l[i].2.1<18446744073709551616
  ·rw[a5W hs];simp only[a6a,D3,A1,A8];exact⟨_,rfl,by rw[h3,hb];omega,by unfold okU;omega⟩
  ·rw[a5U hs];simp only[a6g,D1,A1,B5];rw[a5U (by omega)]
 ·obtain⟨hb,hb1⟩:=hv;rw[a52]at hb;unfold cN;dsimp only;rw[a5N (by omega),D3,A1,B5];unfold xk;rw[a5W (by rw[<-hb];exact hb1.2),hb]
def tF(x:UInt8):Prop:=(97<=x.toNat/\x.toNat<=122)\/(48<=x.toNat/\x.toNat<=57)\/x.toNat=45
instance (x:UInt8):Decidable (tF x):=by unfold tF;infer_instance
def aR(s:List UInt8):Bool:=s.all (λx=>decide (tF x))&&decide (1<=s.length/\s.length<=20)
theorem Gf{s:List UInt8}{i:Nat}(h:i<s.length) (hn:¬tF s[i]):aR s=false:=by
 unfold aR;have:s.all (λx=>decide (tF x))=false:=by
  rw[List.all_eq_false];exact⟨s[i],a5V h,by simpa using hn⟩
 rw[this];rfl
theorem Cv{s:List UInt8}(h:∀j (hj:j<s.length),tF s[j]):aR s=decide (1<=s.length/\s.length<=20):=by
 unfold aR;have:s.all (λx=>decide (tF x))=true:=by
  rw[a7a];intro x hx;obtain⟨j,hj,rfl⟩:=List.mem_iff_getElem.1 hx;simpa using h j hj
 rw[this];rfl
theorem Qr{s:List UInt8}{i:Nat}(h:i<s.length) (hl:s.length<=1000000000000000):Ok (kB s ((s.length:Nat):Int) ((i:Nat):Int)) (· =if tF s[i]then .inl (s,((s.length:Nat):Int),((i+1:Nat):Int))else .inr false):=by
 simp only[kB,A5,D8,A1,C4,a5M,a5L,a5R,a5Q,a5J,C9 h,C1 (i:=i) (by omega)];generalize s[i]=x;have hx:=x.toNat_lt;refine⟨λ_=>⟨by omega,?_⟩,λh=>absurd h (by omega)⟩
 repeat' first | apply And.intro | intro _
 all_goals first | (exfalso;omega) | (rw[a5W (by unfold tF;omega)]) | (rw[a5U (by unfold tF;omega)])
theorem IQ{s:List UInt8}(hl:s.length<=1000000000000000):nb s=some (aR s):=by
 rw[<-J1];unfold nb sW;refine C8 s (λi (_:Unit)=>(s,((s.length:Nat):Int),((i:Nat):Int))) (λi _=>∀j (hj:j<s.length),j<i->tF s[j]) (λi _ hi hv=>?_) (λ_ hv=>?_) (b0:=()) (λj hj h=>by omega) (by omega)
 ·refine(Qr hi hl).mono λr hr=>?_;subst hr;by_cases hn:tF s[i]
  ·rw[a5W hn,A8];refine⟨(),rfl,λj hj hlt=>?_⟩;by_cases e:j=i
   ·subst e;exact hn
   ·exact hv j hj (by omega)
  ·rw[a5U hn,B5,Gf hi hn]
 ·rw[Cv (λj hj=>hv j hj hj)];simp only[kB,qi,A5,D8,A1,C4,A8,B5,a5M,a5L,a5R,a5Q,a5J];refine⟨λh=>absurd h (by omega),λ_=>⟨λh=>?_,λh=>?_⟩⟩
  ·rw[decide_eq_decide];omega
  ·symm;rw[a5L];omega
theorem MV{s:List UInt8}{i:Nat}(h:i<s.length) (hl:s.length<=1000000000000000):Ok (X2 s ((i:Nat):Int)) (· =if tF s[i]then .inl (s,((i+1:Nat):Int))else .inr false):=by
 simp only[X2,A5,D8,A1,C4,a5M,a5L,a5R,a5Q,a5J,C9 h,C1 (i:=i) (by omega)];generalize s[i]=x;have hx:=x.toNat_lt;refine⟨λ_=>⟨by omega,?_⟩,λh=>absurd h (by omega)⟩
 repeat' first | apply And.intro | intro _
 all_goals first | (exfalso;omega) | (rw[a5W (by unfold tF;omega)]) | (rw[a5U (by unfold tF;omega)])
theorem zl{s:List UInt8}(hl:s.length<=1000000000000000):R8 s=some (aR s):=by
 rw[<-J1];unfold R8 kz;refine C8 s (λi (_:Unit)=>(s,((i:Nat):Int))) (λi _=>∀j (hj:j<s.length),j<i->tF s[j]) (λi _ hi hv=>?_) (λ_ hv=>?_) (b0:=()) (λj hj h=>by omega) (by omega)
 ·refine(MV hi hl).mono λr hr=>?_;subst hr;by_cases hn:tF s[i]
  ·rw[a5W hn,A8];refine⟨(),rfl,λj hj hlt=>?_⟩;by_cases e:j=i
   ·subst e;exact hn
   ·exact hv j hj (by omega)
  ·rw[a5U hn,B5,Gf hi hn]
 ·rw[Cv (λj hj=>hv j hj hj)];simp only[X2,gp,A5,D8,A1,C4,A8,B5,a5M,a5L,a5R,a5Q,a5J];refine⟨λh=>absurd h (by omega),λ_=>⟨λh=>?_,λh=>?_⟩⟩
  ·rw[decide_eq_decide];omega
  ·symm;rw[a5L];omega
abbrev less(a b:o5):Bool:=Op.bytesLess a.1 b.1
def Cw:Option o5->List o5->Int
 |_,[]=>0
 |p,a::l=>if aR a.1=false then 10 else match p with
  |none=>Cw (some a) l
  |some q=>if q.1=a.1 then 8 else if less q a=false then 1 else Cw (some a) l
def Ee(g:o8):Int:=if 256<g.1.length then 3 else if Cw none g.1=0 then(if(xk (g.2+pJ g.1)).2=true then 0 else 6)else Cw none g.1
def KU(g:o8):Prop:=okU g.2/\vN g.1/\(∀a∈g.1,a.1.length<=1000000000000000)/\g.1.length<=4398046511000
theorem xM{α:Type}{l:List α}{i:Nat}(h:i<l.length):l.drop i=l[i]::l.drop (i+1):=a6n h
theorem rh{α:Type}{l:List α}{i:Nat}(h:i<l.length):(l.take (i+1)).getLast?=some l[i]:=by
 rw[E4 h,List.getLast?_append];rfl
theorem IR{i:Nat}(h0:0<i) (h:i<9223372036854775807):B3 ((i:Int)-1)=((i-1:Nat):Int):=by
 rw[D9] <;> omega
theorem KW(p:Option o5) (a:o5) (l:List o5):Cw p (a::l)=if aR a.1=false then 10 else match p with
  |none=>Cw (some a) l
  |some q=>if q.1=a.1 then 8 else if less q a=false then 1 else Cw (some a) l:=by rfl
theorem UE{g:o8}(h:KU g):jQ g=some (Ee g):=by
 obtain⟨l,c⟩:=g;obtain⟨hc,hb,hn,hl⟩:=h;dsimp only at hc hb hn hl;rw[<-J1];unfold jQ;dsimp only;rw[A5];refine⟨λh=>?_,λh=>?_⟩
 ·have h:=a5P h;rw[A1];unfold Ee;rw[if_pos (by dsimp only;omega)]
 have h:=a57 h;have hle:¬ 256<l.length:=by omega
 have hval:Ee (l,c)=if Cw none l=0 then(if(xk (c+pJ l)).2=true then 0 else 6)else Cw none l:=by unfold Ee;rw[a5U hle]
 rw[hval];unfold nF;refine C8 l (λi (_:Unit)=>(l,((l.length:Nat):Int),((i:Nat):Int),(l,c))) (λi _=>Cw none l=Cw (l.take i).getLast? (l.drop i)) (λi _ hi hv=>?_) (λ_ hv=>?_) (b0:=()) rfl (by omega)
 ·rw[xM hi,KW]at hv;unfold ga;dsimp only;rw[a5H (by omega:(i:Int)<((l.length:Nat):Int)),D1,a5H (by omega:(0:Int)<=(i:Int)/\(i:Int)<((l.length:Nat):Int)),B7,a5J,C9 hi,IQ (hn _ (a5V hi)),a5I];cases hname:aR l[i].1 with
  |false=>
   rw[a5W hname]at hv;rw[a6g,D1,A1,B5,hv,a5U (by decide)]
  |true=>
   rw[a5U (by rw[hname];decide)]at hv;rw[a6a,D3];rcases a66 i with h0|h0
   ·subst h0;simp only[a6E,List.getLast?_nil]at hv;unfold cy;rw[a5N (by omega:¬(0:Int)<((0:Nat):Int)),D3,D3,D3,A1,A8,C1 (by omega)];exact⟨(),rfl,by rw[hv,rh hi]⟩
   ·have hi':i-1<l.length:=by omega
    have hlast:(l.take i).getLast?=some l[i-1]:=by
     have:=rh hi'
     rwa [a7L h0]at this
    rw[hlast]at hv;dsimp only at hv;unfold cy;rw[a5H (by omega:(0:Int)<((i:Nat):Int)),D1,IR h0 (by omega),a5H (by omega:(0:Int)<=((i-1:Nat):Int)/\((i-1:Nat):Int)<((l.length:Nat):Int)),B7,D1,B7,a5J,C9 hi'];by_cases e:l[i-1].1=l[i].1
    ·rw[a5W e]at hv;rw[a5H e,D1,A1,B5,hv,a5U (by decide)]
    ·rw[a5U e]at hv;have ed:decide (l[i-1].1=l[i].1)=false:=a5N e;rw[ed,D3,Bool.or_false];cases hls:Op.bytesLess l[i-1].1 l[i].1 with
     |false=>
      rw[a5W hls]at hv;rw[a6g,D1,A1,B5,hv,a5U (by decide)]
     |true=>
      rw[a5U (by show ¬Op.bytesLess l[i-1].1 l[i].1=false;rw[hls];decide)]at hv;rw[a6a,D3,A1,A8,C1 (by omega)];exact⟨(),rfl,by rw[hv,rh hi]⟩
 ·rw[a7b]at hv;have hv:Cw none l=0:=hv;unfold ga km;dsimp only;rw[a5N (by omega),D3,UD hc hb hl,a5I,hv,a5W rfl];dsimp only;cases (xk (c+pJ l)).2 with
  |true=>rw[a5W rfl];exact⟨_,rfl,rfl⟩
  |false=>rw[a5U (by decide)];exact⟨_,rfl,rfl⟩
theorem YA{g:o8}(h:KU g):V9 g=some (Ee g):=by
 obtain⟨l,c⟩:=g;obtain⟨hc,hb,hn,hl⟩:=h;dsimp only at hc hb hn hl;rw[<-J1];unfold V9;dsimp only;rw[A5];refine⟨λh=>?_,λh=>?_⟩
 ·have h:=a5P h;rw[A1];unfold Ee;rw[if_pos (by dsimp only;omega)]
 have h:=a57 h;have hle:¬ 256<l.length:=by omega
 have hval:Ee (l,c)=if Cw none l=0 then(if(xk (c+pJ l)).2=true then 0 else 6)else Cw none l:=by unfold Ee;rw[a5U hle]
 rw[hval];unfold fc;refine C8 l (λi (_:Unit)=>(l,((l.length:Nat):Int),((i:Nat):Int),(l,c))) (λi _=>Cw none l=Cw (l.take i).getLast? (l.drop i)) (λi _ hi hv=>?_) (λ_ hv=>?_) (b0:=()) rfl (by omega)
 ·rw[xM hi,KW]at hv;unfold R5;dsimp only;rw[a5H (by omega:(i:Int)<((l.length:Nat):Int)),D1,a5H (by omega:(0:Int)<=(i:Int)/\(i:Int)<((l.length:Nat):Int)),B7,a5J,C9 hi,zl (hn _ (a5V hi)),a5I];cases hname:aR l[i].1 with
  |false=>
   rw[a5W hname]at hv;rw[a6g,D1,A1,B5,hv,a5U (by decide)]
  |true=>
   rw[a5U (by rw[hname];decide)]at hv;rw[a6a,D3];rcases a66 i with h0|h0
   ·subst h0;simp only[a6E,List.getLast?_nil]at hv;unfold L6;rw[a5N (by omega:¬(0:Int)<((0:Nat):Int)),D3,D3,A1,A8,C1 (by omega)];exact⟨(),rfl,by rw[hv,rh hi]⟩
   ·have hi':i-1<l.length:=by omega
    have hlast:(l.take i).getLast?=some l[i-1]:=by
     have:=rh hi'
     rwa [a7L h0]at this
    rw[hlast]at hv;dsimp only at hv;unfold L6;rw[a5H (by omega:(0:Int)<((i:Nat):Int)),D1,IR h0 (by omega),a5H (by omega:(0:Int)<=((i-1:Nat):Int)/\((i-1:Nat):Int)<((l.length:Nat):Int)),B7,D1,B7,a5J,C9 hi'];by_cases e:l[i-1].1=l[i].1
    ·rw[a5W e]at hv;rw[a5H e,D1,A1,B5,hv,a5U (by decide)]
    ·rw[a5U e]at hv;have ed:decide (l[i-1].1=l[i].1)=false:=a5N e;rw[ed,D3,Bool.or_false];cases hls:Op.bytesLess l[i-1].1 l[i].1 with
     |false=>
      rw[a5W hls]at hv;rw[a6g,D1,A1,B5,hv,a5U (by decide)]
     |true=>
      rw[a5U (by show ¬Op.bytesLess l[i-1].1 l[i].1=false;rw[hls];decide)]at hv;rw[a6a,D3,A1,A8,C1 (by omega)];exact⟨(),rfl,by rw[hv,rh hi]⟩
 ·rw[a7b]at hv;have hv:Cw none l=0:=hv;unfold R5 ai;dsimp only;rw[a5N (by omega),D3,Qq hc hb hl,a5I,hv,a5W rfl];dsimp only;cases (xk (c+pJ l)).2 with
  |true=>rw[a5W rfl];exact⟨_,rfl,rfl⟩
  |false=>rw[a5U (by decide)];exact⟨_,rfl,rfl⟩
def I2(l:List o5) (n:List UInt8):Nat:=l.findIdx λa=>decide (a.1=n)
def K0(l:List o5) (n:List UInt8):Nat:=l.findIdx λa=> !Op.bytesLess a.1 n
def NO(l:List o5) (n:List UInt8):o5×Bool:=if I2 l n<l.length then(l.getD (I2 l n) A6,true) else(A6,false)
def KX(l:List o5) (a:o5):List o5:=if I2 l a.1<l.length then l.set (I2 l a.1) a else l.take (K0 l a.1)++a::l.drop (K0 l a.1)
theorem Gg{α:Type}{l:List α}{p:α->Bool}{i:Nat}(h:i<l.length) (hp:p l[i]=true) (hb:∀j (hj:j<l.length),j<i->p l[j]=false):l.findIdx p=i:=
 (List.findIdx_eq h).2 ⟨hp,λj hj=>hb j (by omega) hj⟩
theorem IT{α:Type}{l:List α}{p:α->Bool}(hb:∀j (hj:j<l.length),p l[j]=false):l.findIdx p=l.length:=by
 rw[List.findIdx_eq_length];intro x hx;obtain⟨j,hj,rfl⟩:=a6O hx;exact hb j hj
theorem xN{α:Type}{l:List α}{p:α->Bool}{j:Nat}(hj:j<l.length) (h:j<l.findIdx p):p l[j]=false:=by
 have:=List.not_of_lt_findIdx h;simpa using this
theorem Ef{α:Type}{l:List α}{p:α->Bool}(h:l.findIdx p<l.length):p l[l.findIdx p]=true:=List.findIdx_getElem (w:=h)
theorem Qt{α:Type}(l:List α) (p:α->Bool):l.findIdx p<=l.length:=List.findIdx_le_length
theorem zo{l:List o5}{n:List UInt8}(hl:l.length<=5000000000000):W5 l n=some (if I2 l n<l.length then((I2 l n:Nat):Int)else -1):=by
 rw[<-J1];unfold W5 lY;refine C8 l (λi (_:Unit)=>(n,l,((l.length:Nat):Int),((i:Nat):Int))) (λi _=>∀j (hj:j<l.length),j<i->(λa:o5=>decide (a.1=n)) l[j]=false) (λi _ hi hv=>?_) (λ_ hv=>?_) (b0:=()) (λj hj h=>by omega) (by omega)
 ·unfold dQ;dsimp only;rw[a5H (by omega:(i:Int)<((l.length:Nat):Int)),D1,a5H (by omega:(0:Int)<=(i:Int)/\(i:Int)<((l.length:Nat):Int)),B7,a5J,C9 hi];cases e:decide (l[i].1=n) with
  |true=>
   rw[D1,A1,B5];have:I2 l n=i:=Gg hi e hv;rw[this,a5W hi]
  |false=>
   rw[D3,A1,A8,C1 (by omega)];refine⟨(),rfl,λj hj hlt=>?_⟩;by_cases ej:j=i
   ·subst ej;exact e
   ·exact hv j hj (by omega)
 ·unfold dQ;dsimp only;have:I2 l n=l.length:=IT λj hj=>hv j hj hj;rw[a5N (by omega),D3,A1,B5,this,a5U (by omega)]
theorem Qu{g:o8}{n:List UInt8}(hl:g.1.length<=5000000000000):fd g n=some (NO g.1 n):=by
 unfold fd NO;rw[zo hl,a5I];by_cases h:I2 g.1 n<g.1.length
 ·rw[a5W h,a5W h,a5H (by omega),D1,a5H (by omega:(0:Int)<=((I2 g.1 n:Nat):Int)/\((I2 g.1 n:Nat):Int)<((g.1.length:Nat):Int)),B7,a5J]
 ·rw[a5U h,a5U h];rfl
theorem WV{l:List o5}{a:o5}{k:Nat}(hk:k<=l.length) (hl:l.length<=4398046511000):bc l (k:Int) a=some (l.take k++a::l.drop k):=by
 unfold bc;have e1:(l.take k).length=k:=by rw[a5T];omega
 have e2:(l.take k++[a]).length=k+1:=by rw[a5K,e1];rfl
 have e3:(l.drop k).length=l.length-k:=a5Y;rw[a5J,a5J,a52,e1,e2,e3,a5H (by omega),B7,a5H ⟨by unfold LIM;omega,by unfold LEN;omega⟩,B7,a5H ⟨by unfold LIM;omega,by unfold LEN;omega⟩,B7,a5H (by omega),B7,a5H ⟨by unfold LIM;omega,by unfold LEN;omega⟩,B7,a50];rfl
theorem Eg{l:List o5}{a:o5}(hl:l.length<=4398046511000):bA l a=some (KX l a):=by
 unfold bA KX;rw[zo (by omega),a5I];by_cases h:I2 l a.1<l.length
 ·rw[a5W h,a5W h,a5H (by omega),D1,a5H ⟨by unfold LIM;omega,by unfold LEN;omega⟩,B7,a5H (by omega:(0:Int)<=((I2 l a.1:Nat):Int)/\((I2 l a.1:Nat):Int)<((l.length:Nat):Int)),B7,a5J,a5H h,B7]
 ·rw[a5U h,a5U h,a5N (by omega),D3];rw[<-J1];unfold mI;refine C8 l (λi (_:Unit)=>(l,((i:Nat):Int),a)) (λi _=>∀j (hj:j<l.length),j<i->(λx:o5=> !Op.bytesLess x.1 a.1) l[j]=false) (λi _ hi hv=>?_) (λ_ hv=>?_) (b0:=()) (λj hj h=>by omega) (by omega)
  ·unfold eZ;dsimp only;rw[a5H (by omega:(i:Int)<((l.length:Nat):Int)),D1,a5H (by omega:(0:Int)<=(i:Int)/\(i:Int)<((l.length:Nat):Int)),B7,a5J,C9 hi];cases e:Op.bytesLess l[i].1 a.1 with
   |false=>
    have:K0 l a.1=i:=Gg hi (by rw[e];rfl) hv;rw[D3,WV (by omega) hl,a6e,A1,B5,this]
   |true=>
    rw[D1,A1,A8,C1 (by omega)];refine⟨(),rfl,λj hj hlt=>?_⟩;by_cases ej:j=i
    ·subst ej;rw[e];rfl
    ·exact hv j hj (by omega)
  ·unfold eZ;dsimp only;have:K0 l a.1=l.length:=IT λj hj=>hv j hj hj;rw[a5N (by omega),D3,WV (by omega) hl,a6e,A1,B5,this]
theorem UG(a b:List UInt8):gb a b=some (UF a b):=by
 have hn:∀x,fh x=some false:=λx=>by unfold fh;rw[a5H rfl];rfl
 unfold gb UF;rw[hn,hn,a5I,a5I,D3,D3];rcases yx a b with h|h|h
 ·rw[h,a5W rfl,D1]
 ·subst h;rw[iL,a5H rfl];rfl
 ·have e:a≠b:=λe=>by subst e;rw[iL]at h;cases h
  rw[zm h,h,a5N e];rfl
def Srt(l:List o5):Prop:=l.Pairwise λa b=>less a b=true
theorem Srt.lt{l:List o5}(h:Srt l){i j:Nat}(hi:i<l.length) (hj:j<l.length) (hij:i<j):less l[i] l[j]=true:=List.pairwise_iff_getElem.1 h i j hi hj hij
theorem a5D{x:Nat}(h:x<=9223372036854775807):B3 (D4 (B3 (x:Int)) / 2^1)=((x / 2:Nat):Int):=by
 rw[D9 (n:=(x:Int)) (by omega) (by omega),Q0 (by omega) (by omega),D9 (by omega) (by omega)];omega
abbrev MW:o8:=([],(0:Int))
theorem Ei:∀{l:List o5}{q:o5},Cw (some q) l=0↔(∀a∈l,aR a.1=true/\less q a=true)/\Srt l
 |[],q=>⟨λ_=>⟨λa h=>(by cases h),List.Pairwise.nil⟩,λ_=>rfl⟩
 |a::l,q=>by
  rw[KW];have ih:=Ei (l:=l) (q:=a);dsimp only;constructor
  ·intro h;by_cases h1:aR a.1=false
   ·rw[a5W h1]at h;cases h
   rw[a5U h1]at h;by_cases h2:q.1=a.1
   ·rw[a5W h2]at h;cases h
   rw[a5U h2]at h;by_cases h3:less q a=false
   ·rw[a5W h3]at h;cases h
   rw[a5U h3]at h;have h3':less q a=true:=by simpa using h3
   obtain⟨h4,h5⟩:=ih.1 h;refine⟨λb hb=>?_,List.pairwise_cons.2 ⟨λb hb=>(h4 b hb).2,h5⟩⟩;rcases List.mem_cons.1 hb with rfl|hb
   ·exact⟨by simpa using h1,h3'⟩
   ·exact⟨(h4 b hb).1,sd h3' (h4 b hb).2⟩
  ·rintro⟨h1,h2⟩;obtain⟨h3,h4⟩:=List.pairwise_cons.1 h2;have ha:=h1 a a6M;have hne:q.1≠a.1:=λe=>by
    have:=ha.2;unfold less at this;rw[e,iL]at this;cases this
   rw[a5U (by rw[ha.1];decide),a5U hne,a5U (by rw[ha.2];decide)];exact ih.2 ⟨λb hb=>⟨(h1 b (a6h _ hb)).1,h3 b hb⟩,h4⟩
theorem KY{l:List o5}:Cw none l=0↔(∀a∈l,aR a.1=true)/\Srt l:=by
 cases l with
 |nil=>exact⟨λ_=>⟨λa h=>(by cases h),List.Pairwise.nil⟩,λ_=>rfl⟩
 |cons a l=>
  rw[KW];dsimp only;constructor
  ·intro h;by_cases h1:aR a.1=false
   ·rw[a5W h1]at h;cases h
   rw[a5U h1]at h;obtain⟨h4,h5⟩:=Ei.1 h;refine⟨λb hb=>?_,List.pairwise_cons.2 ⟨λb hb=>(h4 b hb).2,h5⟩⟩;rcases List.mem_cons.1 hb with rfl|hb
   ·simpa using h1
   ·exact(h4 b hb).1
  ·rintro⟨h1,h2⟩;obtain⟨h3,h4⟩:=List.pairwise_cons.1 h2;rw[a5U (by rw[h1 a a6M];decide)];exact Ei.2 ⟨λb hb=>⟨h1 b (a6h _ hb),h3 b hb⟩,h4⟩
def a32(g:o8):Prop:=g.1.length<=256/\(∀a∈g.1,aR a.1=true)/\Srt g.1/\(xk (g.2+pJ g.1)).2=true
theorem KZ{g:o8}:Ee g=0↔a32 g:=by
 unfold Ee a32;constructor
 ·intro h;by_cases h1:256<g.1.length
  ·rw[a5W h1]at h;cases h
  rw[a5U h1]at h;by_cases h2:Cw none g.1=0
  ·rw[a5W h2]at h;obtain⟨h3,h4⟩:=KY.1 h2;refine⟨by omega,h3,h4,?_⟩;by_cases h5:(xk (g.2+pJ g.1)).2=true
   ·exact h5
   ·rw[a5U h5]at h;cases h
  ·rw[a5U h2]at h;exact absurd h h2
 ·rintro⟨h1,h2,h3,h4⟩;rw[a5U (by omega),a5W (KY.2 ⟨h2,h3⟩),a5W h4]
theorem UI{l:List o5}{n:List UInt8}(hs:Srt l):∀i (hi:i<l.length),K0 l n<=i->Op.bytesLess l[i].1 n=false:=λi hi h=>by
 have hp:(!Op.bytesLess l[K0 l n].1 n)=true:=Ef (p:=λa:o5=> !Op.bytesLess a.1 n) (by show K0 l n<l.length;omega);rcases a6y (K0 l n) i with h1|h1
 ·have h2:Op.bytesLess l[K0 l n].1 l[i].1=true:=hs.lt (by omega) hi h1;cases e:Op.bytesLess l[i].1 n with
  |false=>rfl
  |true=>rw[sd h2 e]at hp;cases hp
 ·have:i=K0 l n:=by omega
  subst this;simpa using hp
theorem MX{l:List o5}{n:List UInt8}:∀i (hi:i<l.length),i<K0 l n->Op.bytesLess l[i].1 n=true:=λi hi h=>by
 have:=xN (p:=λa:o5=> !Op.bytesLess a.1 n) hi h;simpa using this
theorem jI{l:List o5}{n:List UInt8}(h:I2 l n<l.length):l[I2 l n].1=n:=a5P (Ef (p:=λa:o5=>decide (a.1=n)) h)
theorem xO{l:List o5}{n:List UInt8}(hs:Srt l) (h:I2 l n<l.length):K0 l n=I2 l n:=by
 have hp:=jI h;refine Gg h (by rw[hp,iL];rfl) λj hj hlt=>?_;have:=hs.lt hj h hlt;unfold less at this;rw[hp]at this;rw[this];rfl
theorem wV{l:List o5}{n:List UInt8}:I2 l n<l.length↔n∈l.map λa=>a.1:=by
 rw[List.mem_map];constructor
 ·intro h;exact⟨l[I2 l n],a5V h,jI h⟩
 ·rintro⟨a,ha,rfl⟩;unfold I2;rw[List.findIdx_lt_length];exact⟨a,ha,by simp⟩
theorem qa{l:List o5}(k:Nat) (a:o5):(l.take k++a::l.drop k).Perm (a::l):=by
 refine List.perm_middle.trans ?_;rw[a6d]
theorem YB{l:List o5}{a:o5}(hs:Srt l) (h:¬I2 l a.1<l.length):Srt (l.take (K0 l a.1)++a::l.drop (K0 l a.1)):=by
 unfold Srt;rw[a7F];have hle:K0 l a.1<=l.length:=Qt _ _;refine⟨hs.sublist (List.take_sublist _ _),List.pairwise_cons.2 ⟨λb hb=>?_,hs.sublist (List.drop_sublist _ _)⟩,λb hb c hc=>?_⟩
 ·obtain⟨j,hj,rfl⟩:=a6O hb;rw[a5Y]at hj;rw[List.getElem_drop];have h1:=UI (n:=a.1) hs (K0 l a.1+j) (by omega) (by omega);rcases yx a.1 (l[K0 l a.1+j]'(by omega)).1 with e|e|e
  ·exact e
  ·exact absurd (wV.2 (List.mem_map.2 ⟨l[K0 l a.1+j]'(by omega),a5V _,e.symm⟩)) h
  ·rw[h1]at e;cases e
 ·obtain⟨j,hj,rfl⟩:=a6O hb;rw[a5T]at hj;rw[List.getElem_take];rcases List.mem_cons.1 hc with rfl|hc
  ·exact MX j (by omega) (by omega)
  ·obtain⟨i,hi,rfl⟩:=a6O hc;rw[a5Y]at hi;rw[List.getElem_drop];exact hs.lt (by omega) (by omega) (by omega)
theorem YC{l:List o5}{a:o5}(hs:Srt l) (h:I2 l a.1<l.length):Srt (l.set (I2 l a.1) a):=by
 have hn:=jI h;unfold Srt;rw[List.pairwise_iff_getElem];intro i j hi hj hij;rw[a6z]at hi hj;rw[List.getElem_set,List.getElem_set];have:=hs.lt hi hj hij;unfold less at this⊢;split
 ·rename_i e;rw[a5U (by omega)];subst e
  rwa [hn]at this
 ·split
  ·rename_i e;subst e
   rwa [hn]at this
  ·exact this
theorem AM{l:List o5}{a:o5}(hs:Srt l):Srt (KX l a):=by
 unfold KX;split
 ·exact YC hs (by assumption)
 ·exact YB hs (by assumption)
theorem YD(l:List o5) (a:o5):(KX l a).length=if I2 l a.1<l.length then l.length else l.length+1:=by
 unfold KX;split
 ·exact a6z
 ·exact(qa _ a).length_eq
theorem Gi{l:List o5}(hl:l.length<=4398046511000):L4 l=some l:=by
 have h1:(0+l.length)*32<=LIM:=by unfold LIM;omega
 have h2:0+l.length<=LEN:=by unfold LEN;omega
 unfold L4 wD;exact congrArg (λb=>chk b (some l)) (a5H ⟨h1,h2⟩)
theorem AN{g:o8}(hl:g.1.length<=4398046511000):gQ g=some (g.1,g.2):=by
 unfold gQ;rw[Gi hl];rfl
def J0(l:List o5):List (List UInt8):=l.map λa=>a.1
def UL(seen:List (List UInt8)):List o5->Int
 |[]=>0
 |a::l=>if aR a.1=false then 10 else if a.1∈seen then 8 else UL (seen++[a.1]) l
theorem Gk(seen:List (List UInt8)) (a:o5) (l:List o5):UL seen (a::l)=if aR a.1=false then 10 else if a.1∈seen then 8 else UL (seen++[a.1]) l:=rfl
theorem Cx{l:List o5}{i:Nat}(h:i<l.length):J0 (l.take (i+1))=J0 (l.take i)++[l[i].1]:=by
 unfold J0;rw[E4 h,a53];rfl
def IV(l:List o5):List o5:=a25 A6 MY l
def ZN(l:List o5):o8×Int:=if 256<l.length then(MW,3)else if UL [] l=0 then(if(xk (0+pJ l)).2=true then((IV l,0),0) else(MW,6)) else(MW,UL [] l)
theorem ri(l:List o5):(IV l).Perm l:=(Gj A6 MY WW l).1
theorem Qx(l:List o5):(IV l).Pairwise λx y=>less y x=false:=by
 have h:=(Gj A6 MY WW l).2;refine h.imp fun {x y} h=>?_;rw[UK]at h;exact h
theorem Qy{l:List o5}(h:(J0 l).Nodup){a b:o5}(ha:a∈l) (hb:b∈l) (e:a.1=b.1):a=b:=by
 unfold J0 at h;rw[List.nodup_iff_pairwise_ne,List.pairwise_map]at h;obtain⟨i,hi,rfl⟩:=a6O ha;obtain⟨j,hj,rfl⟩:=a6O hb;rcases a7P i j with k|k|k
 ·exact absurd e (List.pairwise_iff_getElem.1 h i j hi hj k)
 ·subst k;rfl
 ·exact absurd e.symm (List.pairwise_iff_getElem.1 h j i hj hi k)
theorem a12{l:List o5}(h:Srt l):l.Pairwise λx y=>less y x=false:=h.imp fun {_x _y} k=>zm k
theorem Qz{l b:List o5}(hn:(J0 l).Nodup) (hp:b.Perm l) (hs:Srt b):b=IV l:=by
 refine List.Perm.eq_of_pairwise (le:=λx y=>less y x=false) (λx y hx hy h1 h2=>?_) (a12 hs) (Qx l) (hp.trans (ri l).symm);refine Qy hn (hp.mem_iff.1 hx) ((ri l).mem_iff.1 hy) ?_;rcases yx x.1 y.1 with e|e|e
 ·unfold less at h2;rw[e]at h2;cases h2
 ·exact e
 ·unfold less at h1;rw[e]at h1;cases h1
theorem UM{l m:List Int}(h:l.Perm m):l.sum=m.sum:=by
 induction h with
 |nil=>rfl
 |cons x _ ih=>rw[a63,a63,ih]
 |swap x y l=>simp only[a63];omega
 |trans _ _ h1 h2=>rw[h1,h2]
theorem AO{l m:List o5}(h:l.Perm m):pJ l=pJ m:=UM (h.map _)
theorem Gl{l:List o5}{n:List UInt8}:I2 l n<l.length↔n∈J0 l:=wV
theorem xP{l m:List o5}(h:l.Perm m){n:List UInt8}:n∈J0 l↔n∈J0 m:=(h.map _).mem_iff
theorem Gm(a:o5) (n:List UInt8):jx a n=some (UF a.1 n):=by
 unfold jx;rw[UG];rfl
theorem IW{l:List o5}{n:List UInt8}(hs:Srt l) (hl:l.length<=4398046511000):D5 l n=some (((K0 l n:Nat):Int),decide (I2 l n<l.length)):=by
 have hkl:K0 l n<=l.length:=Qt _ _;have hmono:∀i (hi:i<l.length),K0 l n<=i->Op.bytesLess l[i].1 n=false:=λi hi h=>by
  have hp:(!Op.bytesLess l[K0 l n].1 n)=true:=Ef (p:=λa:o5=> !Op.bytesLess a.1 n) (by show K0 l n<l.length;omega);rcases a6y (K0 l n) i with h1|h1
  ·have h2:Op.bytesLess l[K0 l n].1 l[i].1=true:=hs.lt (by omega) hi h1;cases e:Op.bytesLess l[i].1 n with
   |false=>rfl
   |true=>rw[sd h2 e]at hp;cases hp
  ·have:i=K0 l n:=by omega
   subst this;simpa using hp
 have hless:∀i (hi:i<l.length),i<K0 l n->Op.bytesLess l[i].1 n=true:=λi hi h=>by
  have:=xN (p:=λa:o5=> !Op.bytesLess a.1 n) hi h;simpa using this
 have hfind:I2 l n<l.length↔∃h:K0 l n<l.length,l[K0 l n].1=n:=by
  constructor
  ·intro h;have hp:l[I2 l n].1=n:=a5P (Ef (p:=λa:o5=>decide (a.1=n)) h);have:K0 l n=I2 l n:=by
    refine Gg h (by rw[hp,iL];rfl) λj hj hlt=>?_;have:=hs.lt hj h hlt;unfold less at this;rw[hp]at this;rw[this];rfl
   exact⟨by omega,by simp only[this,hp]⟩
  ·rintro⟨h,e⟩;rcases a6y (I2 l n) l.length with h1|h1
   ·exact h1
   ·exfalso;have:=xN (p:=λa:o5=>decide (a.1=n)) h (by show K0 l n<I2 l n;omega);exact a57 this e
 rw[<-J1];unfold D5 I4;refine L5 (λm v=>∃lo hi:Nat,v=(l,n,((l.length:Nat):Int),(lo:Int),(hi:Int))/\lo<=K0 l n/\K0 l n<=hi/\hi<=l.length/\m=hi-lo) ?_ (n:=l.length) ⟨0,l.length,rfl,by omega,hkl,by omega,by omega⟩ (by omega);rintro m v ⟨lo,hi,rfl,h1,h2,h3,rfl⟩;unfold E8;dsimp only;rw[A5];refine⟨λh=>?_,λh=>?_⟩
 ·have h:=a5P h;have hsum:(lo:Int)+(hi:Int)=((lo+hi:Nat):Int):=by omega
  have hm:(lo+hi) / 2<l.length:=by omega
  rw[hsum,a5D (by omega),a5H (by omega:(0:Int)<=(((lo+hi) / 2:Nat):Int)/\(((lo+hi) / 2:Nat):Int)<((l.length:Nat):Int)),B7,a5J,C9 hm,Gm,a5I,A5];refine⟨λhc=>?_,λhc=>?_⟩
  ·have hc:=(zn _ _).1 (a5P hc);rw[A1,A8,C1 (by omega)];refine⟨hi-((lo+hi) / 2+1),by omega,(lo+hi) / 2+1,hi,rfl,?_,h2,h3,rfl⟩;rcases a6y ((lo+hi) / 2) (K0 l n)with h4|h4
   ·omega
   ·rw[hmono _ hm h4]at hc;cases hc
  ·have hc:=a57 hc;rw[zn]at hc;rw[A1,A8];refine⟨(lo+hi) / 2-lo,by omega,lo,(lo+hi) / 2,rfl,h1,?_,by omega,rfl⟩;rcases a6y ((lo+hi) / 2) (K0 l n)with h4|h4
   ·exact absurd (hless _ hm h4) hc
   ·exact h4
 ·have h:=a57 h;have he:lo=K0 l n:=by omega
  subst he;unfold E7;rw[C4,A5];refine⟨λhk=>?_,λhk=>?_⟩
  ·have hk:=a5P hk;have hk':K0 l n<l.length:=by omega
   rw[a5H (by omega:(0:Int)<=((K0 l n:Nat):Int)/\((K0 l n:Nat):Int)<((l.length:Nat):Int)),B7,a5J,C9 hk',Gm,a5I,A1,B5];refine Prod.ext rfl ?_;show decide (UF l[K0 l n].1 n=0)=decide (I2 l n<l.length);rw[decide_eq_decide,Qs,hfind];exact⟨λe=>⟨hk',e⟩,λ⟨_,e⟩=>e⟩
  ·have hk:=a57 hk;rw[A1,B5,a5N (λh=>by obtain⟨h,_⟩:=hfind.1 h;omega)]
def BL(n t:Nat):Prop:=2^(t-1)<=n/\n<2^t/\1<=t
theorem a13:∃tab:List UInt8,(∀v0 v2:Int,cz v0 v2=chk (decide ((0:Int)<=(wu8 v0)/\(wu8 v0)<256)) (some (B3 (v2+(B3 ((UInt8.toNat (List.getD tab (Int.toNat (wu8 v0)) (0:UInt8)):Nat):Int))))))/\∀k,k<256->1<=k->2^((tab.getD k 0).toNat-1)<=k/\k<2^(tab.getD k 0).toNat/\1<=(tab.getD k 0).toNat:=⟨_,λ_ _=>rfl,a5P (by kernel_rfl)⟩
theorem a14{n:Nat}(h1:1<=n) (h2:n<256){c:Nat}(hc:c<=1000):∃t,cz (n:Int) (c:Int)=some ((c+t:Nat):Int)/\BL n t:=by
 obtain⟨tab,e,h⟩:=a13;have hu:wu8 (n:Int)=(n:Int):=a10 (by omega) (by omega);have hb:=h n h2 h1;have hlt:=(tab.getD n 0).toNat_lt;refine⟨(tab.getD n 0).toNat,?_,hb⟩;rw[e,hu,a5H (by omega),B7,a5J,D9 (n:=(((tab.getD n 0).toNat:Nat):Int)) (by omega) (by omega),D9 (by omega) (by omega)];congr 1
theorem BL.up{n t:Nat}(s:Nat) (h:BL (n / 2^s) t):BL n (s+t):=by
 obtain⟨h1,h2,h3⟩:=h;have hp:0<2^s:=Nat.pow_pos (by omega);refine⟨?_,?_,by omega⟩
 ·have h4:=(a7Z hp).1 h1;rw[<-a7S]at h4
  rwa [show s+t-1=t-1+s by omega]
 ·have h4:=(a7f hp).1 h2;rw[<-a7S]at h4
  rwa [a6I]
theorem Ej(n s:Nat):(n:Int) / 2^s=((n / 2^s:Nat):Int):=by
 rw[Int.natCast_ediv,a8a];rfl
theorem a15{n:Nat}(h1:1<=n) (h2:n<65536){c:Nat}(hc:c<=900):∃t,cA (n:Int) (c:Int)=some ((c+t:Nat):Int)/\BL n t:=by
 unfold cA;by_cases h:256<=n
 ·obtain⟨t,e,hb⟩:=a14 (n:=n / 2^8) (by omega) (by omega) (c:=c+8) (by omega);refine⟨8+t,?_,hb.up 8⟩;have e0:(n:Int) / 2^8=((n / 2^8:Nat):Int):=Ej n 8;have e1:B3 ((c:Int)+8)=((c+8:Nat):Int):=by rw[D9] <;> omega
  have e2:c+8+t=c+(8+t):=by omega
  rw[a5H (by omega),D1,e0,e1,e,e2]
 ·rw[a5N (by omega),D3];exact a14 h1 (by omega) (by omega)
theorem a16{n:Nat}(h1:1<=n) (h2:n<4294967296){c:Nat}(hc:c<=800):∃t,cB (n:Int) (c:Int)=some ((c+t:Nat):Int)/\BL n t:=by
 unfold cB;by_cases h:65536<=n
 ·obtain⟨t,e,hb⟩:=a15 (n:=n / 2^16) (by omega) (by omega) (c:=c+16) (by omega);refine⟨16+t,?_,hb.up 16⟩;have e0:(n:Int) / 2^16=((n / 2^16:Nat):Int):=Ej n 16;have e1:B3 ((c:Int)+16)=((c+16:Nat):Int):=by rw[D9] <;> omega
  have e2:c+16+t=c+(16+t):=by omega
  rw[a5H (by omega),D1,e0,e1,e,e2]
 ·rw[a5N (by omega),D3];exact a15 h1 (by omega) (by omega)
theorem a17{n:Nat}(h1:1<=n) (h2:n<18446744073709551616):∃t,jS (n:Int)=some ((t:Nat):Int)/\BL n t:=by
 unfold jS;by_cases h:4294967296<=n
 ·obtain⟨t,e,hb⟩:=a16 (n:=n / 2^32) (by omega) (by omega) (c:=32) (by omega);refine⟨32+t,?_,hb.up 32⟩;have e0:(n:Int) / 2^32=((n / 2^32:Nat):Int):=Ej n 32;rw[a5H (by omega),D1,e0];exact e
 ·rw[a5N (by omega),D3];obtain⟨t,e,hb⟩:=a16 (n:=n) h1 (by omega) (c:=0) (by omega);refine⟨t,?_,hb⟩;rw[a6j]at e;exact e
theorem a26(m:Nat) (hm:m<18446744073709551616):(BitVec.ofInt IntKind.u64.bits (m:Int)).toNat=m:=by
 rw[a8i];show((m:Int)%((2^64:Nat):Int)).toNat=m;omega
theorem nt{m:Nat}(hm:m<18446744073709551616):bits .and .u64 (m:Int) 4294967295=((m%4294967296:Nat):Int):=by
 unfold bits;rw[IntKind.wrap_u64];have e:(BitVec.ofInt IntKind.u64.bits (m:Int) &&& BitVec.ofInt IntKind.u64.bits 4294967295).toNat=m%4294967296:=by
  rw[a74,a26 m hm,show(BitVec.ofInt IntKind.u64.bits 4294967295).toNat=4294967295 from rfl];exact a7g m 32
 simp only[e];omega
theorem YE{m:Nat}(hm:m<18446744073709551616):bits .and .u64 (m:Int) 1=((m%2:Nat):Int):=by
 unfold bits;rw[IntKind.wrap_u64];have e:(BitVec.ofInt IntKind.u64.bits (m:Int) &&& BitVec.ofInt IntKind.u64.bits 1).toNat=m%2:=by
  rw[a74,a26 m hm,show(BitVec.ofInt IntKind.u64.bits 1).toNat=1 from rfl];exact a7g m 1
 simp only[e];omega
theorem La{a b s:Nat}(hb:b<2^s) (h:2^s*a+b<18446744073709551616):bits .or .u64 ((2^s*a:Nat):Int) (b:Int)=((2^s*a+b:Nat):Int):=by
 unfold bits;rw[IntKind.wrap_u64];have e:(BitVec.ofInt IntKind.u64.bits ((2^s*a:Nat):Int) ||| BitVec.ofInt IntKind.u64.bits (b:Int)).toNat=2^s*a+b:=by
  rw[BitVec.toNat_or,a26 _ (by omega),a26 _ (by omega)];exact(Nat.two_pow_add_eq_or_of_lt hb a).symm
 simp only[e];omega
theorem eP{m:Nat}(h:m<18446744073709551616):D4 (m:Int)=(m:Int):=Q0 (by omega) (by omega)
theorem QA(m:Nat):D4 (m:Int)=((m%18446744073709551616:Nat):Int):=by
 rw[D4,IntKind.wrap_u64];omega
theorem Ek(m:Nat):(m:Int) / 2^32=((m / 4294967296:Nat):Int):=by omega
theorem SD(a b:Nat):(a:Int)*(b:Int)=((a*b:Nat):Int):=(Int.natCast_mul a b).symm
theorem SE(a b:Nat):(a:Int)+(b:Int)=((a+b:Nat):Int):=(Int.natCast_add a b).symm
theorem Cy{x y:Nat}(hx:x<18446744073709551616) (hy:y<18446744073709551616):gA (x:Int) (y:Int)=some (((x*y / 18446744073709551616:Nat):Int),((x*y%18446744073709551616:Nat):Int)):=by
 obtain⟨b1,b2,b3,hhi⟩:=Lib.mul64_hi x y hx hy;have ha:=Lib.half_mul_le (a:=x / 4294967296) (b:=y / 4294967296) (by omega) (by omega);have hb:=Lib.half_mul_le (a:=x / 4294967296) (b:=y%4294967296) (by omega) (by omega);have hc:=Lib.half_mul_le (a:=x%4294967296) (b:=y / 4294967296) (by omega) (by omega);unfold gA;have hxy:x*y / 18446744073709551616<18446744073709551616:=by
  have:x*y<18446744073709551616*18446744073709551616:=Nat.mul_lt_mul'' hx hy;omega
 simp only[Ek,nt hx,nt hy,SD];rw[eP (m:=x / 4294967296*(y / 4294967296)) (by omega),eP (m:=x / 4294967296*(y%4294967296)) (by omega),eP (m:=x%4294967296*(y%4294967296)) b1,eP (m:=x%4294967296*(y / 4294967296)) (by omega)];simp only[Ek,SE];rw[eP b2];simp only[nt b2,Ek,SE];rw[eP b3,eP (m:=x / 4294967296*(y / 4294967296)+(x / 4294967296*(y%4294967296)+x%4294967296*(y%4294967296) / 4294967296) / 4294967296) (by omega)];simp only[Ek,SE];rw[hhi,eP hxy,QA (x*y)]
theorem IX{x y:Nat}(hx:x<18446744073709551616) (hy:y<18446744073709551616):fe (x:Int) (y:Int)=some (((x*y / 18446744073709551616:Nat):Int),((x*y%18446744073709551616:Nat):Int)):=by
 have ha:=Lib.half_mul_le (a:=x / 4294967296) (b:=y / 4294967296) (by omega) (by omega);have hb:=Lib.half_mul_le (a:=x / 4294967296) (b:=y%4294967296) (by omega) (by omega);have hc:=Lib.half_mul_le (a:=x%4294967296) (b:=y / 4294967296) (by omega) (by omega);have hd:=Lib.half_mul_le (a:=x%4294967296) (b:=y%4294967296) (by omega) (by omega);have e:x*y=(x / 4294967296)*(y / 4294967296)*(4294967296*4294967296)+((x / 4294967296)*(y%4294967296)+(x%4294967296)*(y / 4294967296))*4294967296+(x%4294967296)*(y%4294967296):=by
  rw[<-Lib.split_mul,a64 x 4294967296,a64 y 4294967296]
 unfold fe;simp only[Ek,nt hx,nt hy,SD];have hxy:x*y / 18446744073709551616<18446744073709551616:=by
  have:x*y<18446744073709551616*18446744073709551616:=Nat.mul_lt_mul'' hx hy;omega
 rw[e]at hxy⊢;generalize (x / 4294967296)*(y / 4294967296)=a at *
 generalize (x / 4294967296)*(y%4294967296)=b at *
 generalize (x%4294967296)*(y / 4294967296)=c at *
 generalize (x%4294967296)*(y%4294967296)=d at *
 rw[eP (m:=a) (by omega),eP (m:=b) (by omega),eP (m:=c) (by omega),eP (m:=d) (by omega)];simp only[Ek,nt (m:=b) (by omega),nt (m:=c) (by omega),nt (m:=d) (by omega),SE];rw[eP (m:=a+b / 4294967296) (by omega),eP (m:=d / 4294967296+b%4294967296) (by omega)];simp only[SE];rw[eP (m:=a+b / 4294967296+c / 4294967296) (by omega),eP (m:=d / 4294967296+b%4294967296+c%4294967296) (by omega)];simp only[Ek,SE];rw[eP (m:=a+b / 4294967296+c / 4294967296+(d / 4294967296+b%4294967296+c%4294967296) / 4294967296) (by omega)];have hm:D4 (((d / 4294967296+b%4294967296+c%4294967296:Nat):Int)*2^32)=((2^32*((d / 4294967296+b%4294967296+c%4294967296)%4294967296):Nat):Int):=by
  rw[D4,IntKind.wrap_u64];omega
 rw[hm,La (by omega) (by omega)];congr 2
 ·omega
 ·omega
def a18(x y:Nat):Int×Bool:=if x*y<18446744073709551616 then(((x*y:Nat):Int),true) else(0,false)
theorem QB(n:Int) (b:Bool):sZ n b=some (if b=true then n else 0,b):=by cases b <;> rfl
theorem UN{x y:Nat}(hx:x<18446744073709551616) (hy:y<18446744073709551616):rM (x:Int) (y:Int)=some (a18 x y):=by
 unfold rM a18;rw[Cy hx hy,a5I,QB,a5I];by_cases h:x*y<18446744073709551616
 ·have h0:x*y / 18446744073709551616=0:=by omega
  have h1:x*y%18446744073709551616=x*y:=a7j h;rw[a5W h,h0,h1];rfl
 ·have h0:¬((x*y / 18446744073709551616:Nat):Int)=0:=by omega
  rw[a5U h];dsimp only;rw[a5N h0];rfl
theorem YF{x y:Nat}(hx:x<18446744073709551616) (_hy:y<18446744073709551616):jN (x:Int) (y:Int)=some (a18 x y):=by
 unfold jN a18;by_cases h0:x=0
 ·subst h0;rw[a5H (by omega),a6a,D3,a7A,a5W (by omega),SD,a7A];rfl
 ·have hd:D4 (Int.tdiv 18446744073709551615 (x:Int))=((18446744073709551615 / x:Nat):Int):=by
   rw[show Int.tdiv 18446744073709551615 (x:Int)=((18446744073709551615 / x:Nat):Int)from rfl,eP];have:=Nat.div_le_self 18446744073709551615 x;omega
  rw[a5N (by omega),a6g,D1,B7,hd,SD,QA];have key:18446744073709551615 / x<y↔¬x*y<18446744073709551616:=by
   rw[a7f (by omega),a7q y x];omega
  by_cases h:x*y<18446744073709551616
  ·rw[a5W h,a5N (by have:=(not_congr key).2 (by simpa using h);omega),D3,a7j h]
  ·rw[a5U h,a5H (by have:=key.2 h;omega),D1]
theorem a19{y1 y0 u d q r B:Nat}(hq:q*y1+r=u) (h:q*y0<=B*r+d):q*(y1*B+y0)<=u*B+d:=by
 rw[Nat.mul_add,<-a78,<-hq,a7x];have:r*B=B*r:=a7q ..;omega
theorem a2a{y1 y0 u d q r B:Nat}(hq:q*y1+r=u) (h:B*r+d<q*y0):u*B+d<q*(y1*B+y0):=by
 rw[Nat.mul_add,<-a78,<-hq,a7x];have:r*B=B*r:=a7q ..;omega
structure wW (y1 y0 u d Q q r:Nat):Prop where
 hq:q*y1+r=u
 lo:Q<=q
 up:q<=4294967297
theorem wW.stop{y1 y0 u d Q q r:Nat}(hQ:Q=(u*4294967296+d) / (y1*4294967296+y0)) (hy:0<y1*4294967296+y0) (h:wW y1 y0 u d Q q r) (hc:q*y0<=4294967296*r+d):q=Q:=by
 have h1:=a19 h.hq hc;have h2:=(a7Z hy).2 h1;have:=h.lo;omega
theorem wW.dec{y1 y0 u d Q q r:Nat}(hQ:Q=(u*4294967296+d) / (y1*4294967296+y0)) (hy:0<y1*4294967296+y0) (hu:u<y1*4294967296+y0) (hd:d<4294967296) (h:wW y1 y0 u d Q q r) (hc:4294967296<=q\/4294967296*r+d<q*y0):1<=q/\wW y1 y0 u d Q (q-1) (r+y1):=by
 have hlt:Q<q:=by
  rcases hc with hc|hc
  ·have:Q<4294967296:=by
    rw[hQ,a7f hy];have:(u+1)*4294967296<=(y1*4294967296+y0)*4294967296:=a6k _ hu;have h2:4294967296*(y1*4294967296+y0)=(y1*4294967296+y0)*4294967296:=a7q ..;omega
   omega
  ·have h1:=a2a h.hq hc;rw[hQ];exact(a7f hy).2 h1
 refine⟨by omega,?_,by omega,by have:=h.up;omega⟩;have h1:=h.hq;obtain⟨k,rfl⟩:∃k,q=k+1:=⟨q-1,by omega⟩;rw[Nat.add_sub_cancel];rw[a6r]at h1;omega
theorem wW.brk{y1 y0 u d Q q r:Nat}(hQ:Q=(u*4294967296+d) / (y1*4294967296+y0)) (hy:0<y1*4294967296+y0) (h0:y0<4294967296) (h:wW y1 y0 u d Q q r) (hq:q<=4294967296) (hr:4294967296<=r):q=Q:=by
 refine h.stop hQ hy ?_;have h1:q*y0<=4294967296*y0:=a6k _ hq;omega
theorem WX{y1 y0 u d Q:Nat}(hQ:Q=(u*4294967296+d) / (y1*4294967296+y0)) (h1:2147483648<=y1) (h1':y1<4294967296) (h0:y0<4294967296) (hu:u<y1*4294967296+y0) (hd:d<4294967296):wW y1 y0 u d Q (u / y1) (u%y1):=by
 have hy:0<y1*4294967296+y0:=by omega
 refine⟨a64 u y1,?_,?_⟩
 ·rw[hQ,a7Z (by omega)];have h2:=Nat.div_mul_le_self (u*4294967296+d) (y1*4294967296+y0);rw[Nat.mul_add,<-a78]at h2;generalize (u*4294967296+d) / (y1*4294967296+y0)=q at h2⊢;generalize q*y1=m at h2⊢;generalize q*y0=k at h2;omega
 ·refine Nat.lt_succ_iff.1 ((a7f (by omega)).2 ?_);have:Nat.succ 4294967297*y1=4294967298*y1:=rfl;omega
def EN(y u d:Nat):Nat:=(u*4294967296+d) / y
theorem Gn{q y0:Nat}(hq:q<4294967296) (h0:y0<4294967296):q*y0<18446744073709551616:=by
 have:q*y0<=4294967295*4294967295:=a7V (by omega) (by omega);omega
theorem YG(a b:Nat):Int.tdiv (a:Int) (b:Int)=((a / b:Nat):Int):=rfl
theorem a2b(a b:Nat):(a:Int) / (b:Int)=((a / b:Nat):Int):=rfl
theorem QC{q:Nat}(h:1<=q) (h2:q<=4294967297):D4 ((q:Int)-1)=((q-1:Nat):Int):=by rw[Q0] <;> omega
theorem YH{s y1 y0 u d d2 q r Q:Nat}{p:Int×Int->Prop}(hQ:Q=EN (y1*4294967296+y0) u d) (h1:2147483648<=y1) (h1':y1<4294967296) (h0:y0<4294967296) (hu:u<y1*4294967296+y0) (hd:d<4294967296) (hg:wW y1 y0 u d Q q r) (hr:r<4294967296)
  (hp:Ok (U1 ((y1*4294967296+y0:Nat):Int) (s:Int) (y1:Int) (y0:Int) (u:Int) (d:Int) (d2:Int) (Q:Int)) p) :
  Ok (jz ((y1*4294967296+y0:Nat):Int) (s:Int) (y1:Int) (y0:Int) (u:Int) (d:Int) (d2:Int) (q:Int) (r:Int)) p:=by
 have hy:0<y1*4294967296+y0:=by omega
 unfold jz;refine L5 (λk v=>∃q r:Nat,v=(((y1*4294967296+y0:Nat):Int),(s:Int),(y1:Int),(y0:Int),(u:Int),(d:Int),(d2:Int),(q:Int),(r:Int))/\wW y1 y0 u d Q q r/\r<4294967296/\k=q) ?_ (n:=q) ⟨q,r,rfl,hg,hr,rfl⟩ (by have:=hg.up;omega);rintro k v ⟨q,r,rfl,hg,hr,rfl⟩;have hup:=hg.up;have hdec:(4294967296<=k\/4294967296*r+d<k*y0)->Ok (cF ((y1*4294967296+y0:Nat):Int) (s:Int) (y1:Int) (y0:Int) (u:Int) (d:Int) (d2:Int) (k:Int) (r:Int)) (Nxt p λz=>∃m,m<k/\∃q r:Nat,z=(((y1*4294967296+y0:Nat):Int),(s:Int),(y1:Int),(y0:Int),(u:Int),(d:Int),(d2:Int),(q:Int),(r:Int))/\wW y1 y0 u d Q q r/\r<4294967296/\m=q):=λhc=>by
  obtain⟨hk,hg'⟩:=hg.dec hQ hy hu hd hc;unfold cF;rw[SE,eP (m:=r+y1) (by omega),QC hk hup,A5];refine⟨λhb=>?_,λhb=>?_⟩
  ·have hb:=a5P hb;have e:=hg'.brk hQ hy h0 (by omega) (by omega);rw[C4,e];exact hp
  ·have hb:=a57 hb;rw[A1,A8];exact⟨k-1,by omega,k-1,r+y1,rfl,hg',by omega,rfl⟩
 unfold ko;dsimp only;rw[A5];refine⟨λhc=>hdec (.inl (by have:=a5P hc;omega)),λhc=>?_⟩;have hc:=a57 hc;have hk:k<4294967296:=by omega
 have e1:D4 (4294967296*(r:Int))=((4294967296*r:Nat):Int):=by rw[Q0] <;> omega
 rw[e1,SE,eP (m:=4294967296*r+d) (by omega),SD,eP (Gn hk h0),A5];refine⟨λhc2=>hdec (.inr (by have:=a5P hc2;omega)),λhc2=>?_⟩;have hc2:=a57 hc2;have e:=hg.stop hQ hy (by omega);rw[C4,e];exact hp
theorem YI{s y1 y0 u d Q1 q r Q:Nat}{p:Int×Int->Prop}(hQ:Q=EN (y1*4294967296+y0) u d) (h1:2147483648<=y1) (h1':y1<4294967296) (h0:y0<4294967296) (hu:u<y1*4294967296+y0) (hd:d<4294967296) (hg:wW y1 y0 u d Q q r) (hr:r<4294967296)
  (hp:Ok (cC ((y1*4294967296+y0:Nat):Int) (s:Int) (d:Int) (Q1:Int) (u:Int) (Q:Int)) p) :
  Ok (jy ((y1*4294967296+y0:Nat):Int) (s:Int) (y1:Int) (y0:Int) (d:Int) (Q1:Int) (r:Int) (u:Int) (q:Int)) p:=by
 have hy:0<y1*4294967296+y0:=by omega
 unfold jy;refine L5 (λk v=>∃q r:Nat,v=(((y1*4294967296+y0:Nat):Int),(s:Int),(y1:Int),(y0:Int),(d:Int),(Q1:Int),(r:Int),(u:Int),(q:Int))/\wW y1 y0 u d Q q r/\r<4294967296/\k=q) ?_ (n:=q) ⟨q,r,rfl,hg,hr,rfl⟩ (by have:=hg.up;omega);rintro k v ⟨q,r,rfl,hg,hr,rfl⟩;have hup:=hg.up;have hdec:(4294967296<=k\/4294967296*r+d<k*y0)->Ok (cD ((y1*4294967296+y0:Nat):Int) (s:Int) (y1:Int) (y0:Int) (d:Int) (Q1:Int) (r:Int) (u:Int) (k:Int)) (Nxt p λz=>∃m,m<k/\∃q r:Nat,z=(((y1*4294967296+y0:Nat):Int),(s:Int),(y1:Int),(y0:Int),(d:Int),(Q1:Int),(r:Int),(u:Int),(q:Int))/\wW y1 y0 u d Q q r/\r<4294967296/\m=q):=λhc=>by
  obtain⟨hk,hg'⟩:=hg.dec hQ hy hu hd hc;unfold cD;rw[SE,eP (m:=r+y1) (by omega),QC hk hup,A5];refine⟨λhb=>?_,λhb=>?_⟩
  ·have hb:=a5P hb;have e:=hg'.brk hQ hy h0 (by omega) (by omega);rw[C4,e];exact hp
  ·have hb:=a57 hb;rw[A1,A8];exact⟨k-1,by omega,k-1,r+y1,rfl,hg',by omega,rfl⟩
 unfold kn;dsimp only;rw[A5];refine⟨λhc=>hdec (.inl (by have:=a5P hc;omega)),λhc=>?_⟩;have hc:=a57 hc;have hk:k<4294967296:=by omega
 have e1:D4 (4294967296*(r:Int))=((4294967296*r:Nat):Int):=by rw[Q0] <;> omega
 rw[e1,SE,eP (m:=4294967296*r+d) (by omega),SD,eP (Gn hk h0),A5];refine⟨λhc2=>hdec (.inr (by have:=a5P hc2;omega)),λhc2=>?_⟩;have hc2:=a57 hc2;have e:=hg.stop hQ hy (by omega);rw[C4,e];exact hp
theorem QD{y u d:Nat}(hu:u<y) (hd:d<4294967296):EN y u d<4294967296:=by
 unfold EN;rw[a7f (by omega)];have:(u+1)*4294967296<=y*4294967296:=a6k _ hu;have h2:4294967296*y=y*4294967296:=a7q ..;omega
theorem MZ{y u d1 d0:Nat}(hy:0<y):EN y u d1*4294967296+EN y ((u*4294967296+d1)%y) d0=(u*18446744073709551616+(d1*4294967296+d0)) / y:=by
 unfold EN;have h:=a64 (u*4294967296+d1) y;have e:u*18446744073709551616+(d1*4294967296+d0)=((u*4294967296+d1)%y*4294967296+d0)+((u*4294967296+d1) / y*4294967296)*y:=by
  have h2:(u*4294967296+d1) / y*4294967296*y=((u*4294967296+d1) / y*y)*4294967296:=Nat.mul_right_comm ..;rw[h2];omega
 rw[e,Nat.add_mul_div_right _ _ hy,a6I]
theorem a2c{s y y1 y0 u d d2 Q1 U:Nat}(hs:s<=64) (hy:y=y1*4294967296+y0) (h1:2147483648<=y1) (h1':y1<4294967296) (h0:y0<4294967296) (hd2:d2<4294967296) (hU:U<y) (hP:Q1*y+U=u*4294967296+d) (hQ1:Q1<4294967296) :
  Ok (U1 (y:Int) (s:Int) (y1:Int) (y0:Int) (u:Int) (d:Int) (d2:Int) (Q1:Int)) λr=>r.1=((Q1*4294967296+EN y U d2:Nat):Int):=by
 have hq2:=QD hU hd2;have eu2:D4 (D4 (D4 ((u:Int)*4294967296)+(d:Int))-D4 ((Q1:Int)*(y:Int)))=(U:Int):=by
  rw[SD];have hy64:y<18446744073709551616:=by omega
  clear hy hq2;generalize Q1*y=P at hP⊢;simp only[D4,IntKind.wrap_u64];omega
 clear hP;have hU':U<y1*4294967296+y0:=by rw[<-hy];exact hU
 have hg:=WX (Q:=EN y U d2) (by unfold EN;rw[hy]) h1 h1' h0 hU' hd2;have hmod:U%y1<y1:=a8P _ (by omega);have hup:=hg.up;have eq0:D4 (Int.tdiv (U:Int) (y1:Int))=((U / y1:Nat):Int):=by
  rw[YG,eP (by omega)]
 have er0:D4 ((U:Int)-D4 (((U / y1:Nat):Int)*(y1:Int)))=((U%y1:Nat):Int):=by
  have h:=a64 U y1;have hU64:U<18446744073709551616:=by omega
  rw[SD];clear hq2 hg hup eq0 eu2 hU hU' hy;generalize U / y1*y1=P at h⊢;generalize U%y1=R at h⊢;simp only[D4,IntKind.wrap_u64];omega
 unfold U1;rw[a5N (by omega),a6g,B7,eu2,eq0,er0];have hfin:D4 (D4 ((Q1:Int)*4294967296)+((EN y U d2:Nat):Int))=((Q1*4294967296+EN y U d2:Nat):Int):=by
  generalize EN y U d2=Q2 at hq2⊢;rw[Q0 (n:=(Q1:Int)*4294967296) (by omega) (by omega),Q0 (by omega) (by omega)];omega
 have hlt:U%y1<4294967296:=by omega
 clear eu2 eq0 er0 hup hmod;generalize U / y1=q0 at hg⊢;generalize U%y1=r0 at hg hlt⊢;subst hy;refine YI rfl h1 h1' h0 hU' hd2 hg hlt ?_;unfold cC;rw[a5H (by omega),B7,A1];exact hfin
theorem a33{s y1 y0 u d d2:Nat}(hs:s<=64) (h1:2147483648<=y1) (h1':y1<4294967296) (h0:y0<4294967296) (hu:u<y1*4294967296+y0) (hd:d<4294967296) (hd2:d2<4294967296) :
  Ok (U1 ((y1*4294967296+y0:Nat):Int) (s:Int) (y1:Int) (y0:Int) (u:Int) (d:Int) (d2:Int) ((EN (y1*4294967296+y0) u d:Nat):Int)) λr=>r.1=(((u*18446744073709551616+(d*4294967296+d2)) / (y1*4294967296+y0):Nat):Int):=by
 have hy0:0<y1*4294967296+y0:=by omega
 have htd:=MZ (y:=y1*4294967296+y0) (u:=u) (d1:=d) (d0:=d2) hy0;refine(a2c (Q1:=EN (y1*4294967296+y0) u d) hs rfl h1 h1' h0 hd2 (U:=(u*4294967296+d)%(y1*4294967296+y0)) (a8P _ hy0) (by unfold EN;exact a64 _ _) (QD hu hd)).mono λr hr=>?_;rw[hr,htd]
theorem Na{hi lo y:Nat}(hh:hi<y) (hlo:lo<18446744073709551616) (hy:y<18446744073709551616):Ok (jT (hi:Int) (lo:Int) (y:Int)) λr=>r.1=(((hi*18446744073709551616+lo) / y:Nat):Int):=by
 unfold jT;rw[a5N (by omega),D3,a5N (by omega),D3];by_cases h0:hi=0
 ·subst h0;rw[a5H (by omega),D1,a6g,B7,B7,A1];dsimp only;have:=Nat.div_le_self lo y;rw[YG,eP (by omega),a7A,a6j]
 rw[a5N (by omega),D3];obtain⟨t,e,b1,b2,b3⟩:=a17 (n:=y) (by omega) hy;have ht:t<=64:=by
  rcases a6y 64 t with h|h
  ·have:2^64<=2^(t-1):=a7G (by omega) (by omega);omega
  ·exact h
 obtain⟨s,hs⟩:∃s,s=64-t:=⟨_,rfl⟩;have hr1:D4 ((64-t:Nat):Int)=(s:Int):=by rw[eP (by omega),hs]
 have elz:ao (y:Int)=some ((64-t:Nat):Int):=by
  unfold ao;rw[e,a5I,D9 (by omega) (by omega)];congr 1;omega
 have hp2:(2:Int)^s=((2^s:Nat):Int):=by rw[a8a];rfl
 have hps:0<2^s:=Nat.pow_pos (by omega);have hn1:9223372036854775808<=y*2^s:=by
  have h1:2^(t-1)*2^s<=y*2^s:=a6k _ b1;rw[<-a7S,show t-1+s=63 by omega]at h1;exact h1
 have hn2:y*2^s<18446744073709551616:=by
  have h1:y*2^s<2^t*2^s:=Nat.mul_lt_mul_of_pos_right b2 hps;rw[<-a7S,show t+s=64 by omega]at h1;exact h1
 have hhi:hi*2^s+2^s<=y*2^s:=by
  have h1:(hi+1)*2^s<=y*2^s:=a6k _ hh
  rwa [a6r]at h1
 have hlow:lo / 2^(64-s)<2^s:=by
  refine Nat.div_lt_of_lt_mul ?_;rw[<-a7S,show 64-s+s=64 by omega];exact hlo
 have hlo2:lo*2^s=lo / 2^(64-s)*18446744073709551616+lo*2^s%18446744073709551616:=by
  have h1:lo*2^s / 18446744073709551616=lo / 2^(64-s):=by
   have h2:(18446744073709551616:Nat)=2^(64-s)*2^s:=by rw[<-a7S,show 64-s+s=64 by omega]
   rw[h2,Nat.mul_div_mul_right _ _ hps]
  have h3:=a64 (lo*2^s) 18446744073709551616;omega
 have hmin1:min s 64=s:=by omega
 have hmin2:min (64-s) 64=64-s:=by omega
 have hsub:D4 (64-(s:Int))=((64-s:Nat):Int):=by rw[Q0] <;> omega
 have hp3:(2:Int)^(64-s)=((2^(64-s):Nat):Int):=by rw[a8a];rfl
 rw[elz,a5I,hr1,a5H (by omega),B7,B7,hsub,a5H (by omega),B7,B7];simp only[a5J,hmin1,hmin2,hp2,hp3,SD];rw[eP hn2,eP (m:=hi*2^s) (by omega),QA (lo*2^s),a2b];have hor:bits .or .u64 ((hi*2^s:Nat):Int) ((lo / 2^(64-s):Nat):Int)=((hi*2^s+lo / 2^(64-s):Nat):Int):=by
  have:=La (a:=hi) hlow (by rw[a7q];omega)
  rwa [a7q (2^s) hi]at this
 rw[hor,nt hn2,nt (m:=lo*2^s%18446744073709551616) (by omega),Ek,Ek];have hQ:(hi*18446744073709551616+lo) / y=((hi*2^s+lo / 2^(64-s))*18446744073709551616+(lo*2^s%18446744073709551616 / 4294967296*4294967296+lo*2^s%18446744073709551616%4294967296)) / (y*2^s):=by
  have e1:(hi*2^s+lo / 2^(64-s))*18446744073709551616+(lo*2^s%18446744073709551616 / 4294967296*4294967296+lo*2^s%18446744073709551616%4294967296)=(hi*18446744073709551616+lo)*2^s:=by
   rw[a64,a7x (hi*18446744073709551616),Nat.mul_right_comm hi];omega
  rw[e1,Nat.mul_div_mul_right _ _ hps]
 rw[hQ];have hu:hi*2^s+lo / 2^(64-s)<y*2^s:=by omega
 have hd1:lo*2^s%18446744073709551616 / 4294967296<4294967296:=by omega
 have hd2:lo*2^s%18446744073709551616%4294967296<4294967296:=by omega
 generalize hi*2^s+lo / 2^(64-s)=u at hu⊢;generalize lo*2^s%18446744073709551616 / 4294967296=d1 at hd1⊢;generalize lo*2^s%18446744073709551616%4294967296=d2 at hd2⊢;generalize y*2^s=Y at hn1 hn2 hu⊢;obtain⟨y1,hy1⟩:∃y1,y1=Y / 4294967296:=⟨_,rfl⟩;obtain⟨y0,hy0⟩:∃y0,y0=Y%4294967296:=⟨_,rfl⟩;have hY:Y=y1*4294967296+y0:=by omega
 have k1:2147483648<=y1:=by omega
 have k2:y1<4294967296:=by omega
 have k3:y0<4294967296:=by omega
 rw[<-hy1,<-hy0];clear hy1 hy0;subst hY;have hg:=WX (Q:=EN (y1*4294967296+y0) u d1) (by unfold EN;exact Eq.refl _) k1 k2 k3 hu hd1;have hup:=hg.up;have hmod:u%y1<y1:=a8P _ (by omega);have eq0:D4 (Int.tdiv (u:Int) (y1:Int))=((u / y1:Nat):Int):=by
  rw[YG,eP (by omega)]
 have er0:D4 ((u:Int)-D4 (((u / y1:Nat):Int)*(y1:Int)))=((u%y1:Nat):Int):=by
  have h:=a64 u y1;rw[SD];generalize u / y1*y1=P at h⊢;simp only[D4,IntKind.wrap_u64];omega
 rw[a5N (by omega),a6g,B7,eq0,er0];exact YH rfl k1 k2 k3 hu hd1 hg (by omega) (a33 (by omega) k1 k2 k3 hu hd1 hd2)
def mdF(x y c:Nat):Int×Bool:=if c=0 then(0,false)else if c<=x*y / 18446744073709551616 then(0,false) else(((x*y / c:Nat):Int),true)
theorem IY{x y c:Nat}(hx:x<18446744073709551616) (hy:y<18446744073709551616) (hc:c<18446744073709551616):nq (x:Int) (y:Int) (c:Int)=some (mdF x y c):=by
 rw[<-J1];unfold nq mdF;rw[Cy hx hy,a5I];dsimp only;by_cases h:c<=x*y / 18446744073709551616
 ·rw[a5H (by omega),D1,A1];split <;> simp
 ·rw[a5N (by omega),D3,A4];have h1:=a64 (x*y) 18446744073709551616;refine(Na (hi:=x*y / 18446744073709551616) (lo:=x*y%18446744073709551616) (y:=c) (by omega) (by omega) hc).mono λr hr=>?_;rw[h1]at hr;rw[A1,a5U (by omega),a5U h,hr]
theorem UO(lo:Nat){k:Nat}(hk:k<64):lo / 2^(63-k)=2*(lo / 2^(64-k))+lo / 2^(63-k)%2:=by
 have h:lo / 2^(64-k)=lo / 2^(63-k) / 2:=by
  rw[Nat.div_div_eq_div_mul,<-a7r,show(63-k).succ=64-k by omega]
 rw[h];omega
theorem Nb{x y c:Nat}(hx:x<18446744073709551616) (hy:y<18446744073709551616) (hc:c<18446744073709551616):fW (x:Int) (y:Int) (c:Int)=some (mdF x y c):=by
 rw[<-J1];unfold fW mdF;rw[IX hx hy,a5I];dsimp only;by_cases h0:c=0
 ·subst h0;rw[a5H (by omega),D1,a5W rfl,A1]
 rw[a5N (by omega),D3,a5U h0];by_cases h:c<=x*y / 18446744073709551616
 ·rw[a5H (by omega),D1,a5W h,A1]
 rw[a5N (by omega),D3,a5U h];obtain⟨hi,hhi⟩:∃hi,hi=x*y / 18446744073709551616:=⟨_,rfl⟩;obtain⟨lo,hlo⟩:∃lo,lo=x*y%18446744073709551616:=⟨_,rfl⟩;have hN:x*y=hi*18446744073709551616+lo:=by omega
 have hlo2:lo<18446744073709551616:=by omega
 have hhi2:hi<c:=by omega
 rw[<-hhi,<-hlo,hN];clear hhi hlo hN h;unfold lB;refine L5 (λm v=>∃k rest out:Nat,v=((c:Int),(rest:Int),(lo:Int),(out:Int),63-(k:Int))/\k<=64/\m=64-k/\out*c+rest=hi*2^k+lo / 2^(64-k)/\rest<c/\out<2^k) ?_ (n:=64) ⟨0,hi,0,rfl,by omega,rfl,by rw[a7A,a6j,Nat.pow_zero,Nat.mul_one,a8e,Nat.div_eq_of_lt hlo2];rfl,hhi2,by omega⟩ (by omega);rintro m v ⟨k,rest,out,rfl,hk,rfl,hinv,hr,ho⟩;unfold ij;dsimp only;rw[A5];refine⟨λhcnd=>?_,λhcnd=>?_⟩
 ·have hcnd:=a5P hcnd;have hk':k<64:=by omega
  have hnext:=UO lo hk';obtain⟨b,hb⟩:∃b,b=lo / 2^(63-k)%2:=⟨_,rfl⟩;have hb2:b<2:=by omega
  have hpk:2^(k+1)=2^k*2:=a7r ..;have hpk2:2^k<=2^63:=a7G (by omega) (by omega);have hV:hi*2^(k+1)+lo / 2^(64-(k+1))=2*(out*c+rest)+b:=by
   rw[show 64-(k+1)=63-k by omega,hnext,hinv,hpk,<-hb,<-a78];omega
  have e1:min (Int.toNat (63-(k:Int))) 64=63-k:=by omega
  have e2:(lo:Int) / 2^(63-k)=((lo / 2^(63-k):Nat):Int):=by
   rw[show(2:Int)^(63-k)=((2^(63-k):Nat):Int) by rw[a8a];rfl,a2b]
  have hle:lo / 2^(63-k)<18446744073709551616:=Nat.lt_of_le_of_lt (Nat.div_le_self _ _) hlo2;have e3:D4 ((rest:Int)*2^1)=((2^1*(rest%9223372036854775808):Nat):Int):=by
   rw[D4,IntKind.wrap_u64];omega
  have e4:D4 ((out:Int)*2^1)=((2^1*out:Nat):Int):=by
   rw[Q0] <;> omega
  have e5:B3 (63-(k:Int)-1)=63-((k+1:Nat):Int):=by rw[D9] <;> omega
  have ho1:bits .or .u64 ((2^1*(rest%9223372036854775808):Nat):Int) ((b:Nat):Int)=((2^1*(rest%9223372036854775808)+b:Nat):Int):=La (by omega) (by omega);have ho2:bits .or .u64 ((2^1*out:Nat):Int) 1=((2^1*out+1:Nat):Int):=La (b:=1) (by omega) (by omega);rw[a5H hcnd,B7,e1,e2,YE hle,<-hb,e3,ho1,e4];have hbig:out*c+out*c+2*rest+b=2*(out*c+rest)+b:=by omega
  have htake:c<=2*rest+b->D4 (((2^1*(rest%9223372036854775808)+b:Nat):Int)-(c:Int))=((2*rest+b-c:Nat):Int):=λhcc=>by
   rw[D4,IntKind.wrap_u64];omega
  have hyes:c<=2*rest+b->Ok (S9 (c:Int) ((2^1*(rest%9223372036854775808)+b:Nat):Int) (lo:Int) ((2^1*out:Nat):Int) (63-(k:Int)) true) (Nxt (λr=>r=((((hi*18446744073709551616+lo) / c:Nat):Int),true)) λz=>∃m,m<64-k/\∃k rest out:Nat,z=((c:Int),(rest:Int),(lo:Int),(out:Int),63-(k:Int))/\k<=64/\m=64-k/\out*c+rest=hi*2^k+lo / 2^(64-k)/\rest<c/\out<2^k):=λhcc=>by
   unfold S9;rw[D1,htake hcc,ho2,e5,A1,A8];refine⟨64-(k+1),by omega,k+1,2*rest+b-c,2^1*out+1,rfl,by omega,rfl,?_,by omega,by omega⟩;have hoc:(2^1*out+1)*c=out*c+out*c+c:=by
    rw[a6r,show 2^1*out=out+out by omega,a7x]
   rw[hV,hoc];omega
  rw[A5];refine⟨λhcar=>?_,λhcar=>?_⟩
  ·have hcar:=a5P hcar;have:9223372036854775808<=rest:=by omega
   exact hyes (by omega)
  ·have hcar:=a57 hcar;have hsm:rest<9223372036854775808:=by omega
   have hmod:rest%9223372036854775808=rest:=a7j hsm;by_cases hcc:c<=2*rest+b
   ·rw[a5H (by rw[hmod];omega)];exact hyes hcc
   ·rw[a5N (by rw[hmod];omega)];unfold S9;rw[D3,e5,A1,A8,hmod];refine⟨64-(k+1),by omega,k+1,2^1*rest+b,2^1*out,rfl,by omega,rfl,?_,by omega,by omega⟩;have hoc:(2^1*out)*c=out*c+out*c:=by
     rw[show 2^1*out=out+out by omega,a7x]
    rw[hV,hoc];omega
 ·have hcnd:=a57 hcnd;have e:k=64:=by omega
  subst e;rw[A1,B5];have hd:(hi*18446744073709551616+lo) / c=out:=by
   have h1:hi*18446744073709551616+lo=rest+out*c:=by
    rw[a7J,Nat.pow_zero,Nat.div_one]at hinv;have:(2:Nat)^64=18446744073709551616:=rfl;rw[this]at hinv;omega
   rw[h1,Nat.add_mul_div_right _ _ (by omega),Nat.div_eq_of_lt hr,a6j]
  rw[hd]
theorem UP(x y c:Nat):mdF x y c=mdF y x c:=by unfold mdF;rw[a7q]
def QE(fee gas:Nat):Int:=if gas=0 then 0 else if(mdF fee 1000 gas).2=true then(mdF fee 1000 gas).1 else 18446744073709551615
theorem QF{fee gas:Nat}(h1:fee<18446744073709551616) (h2:gas<18446744073709551616):kC (fee:Int) (gas:Int)=some (QE fee gas):=by
 unfold kC QE;by_cases h:gas=0
 ·subst h;rw[a5H (by omega),D1,a5W rfl]
 ·have e:=IY (x:=1000) (y:=fee) (c:=gas) (by omega) h1 h2;rw[a5N (by omega),D3,a5U h,show(1000:Int)=((1000:Nat):Int)from rfl,e,a5I,UP];cases (mdF fee 1000 gas).2 with
  |true=>rw[a5W rfl];rfl
  |false=>rw[a5U (by decide)];rfl
theorem UQ{fee gas:Nat}(h1:fee<18446744073709551616) (h2:gas<18446744073709551616):Z1 (fee:Int) (gas:Int)=some (QE fee gas):=by
 unfold Z1 QE;by_cases h:gas=0
 ·subst h;rw[a5H (by omega),D1,a5W rfl]
 ·have e:=Nb (x:=fee) (y:=1000) (c:=gas) h1 (by omega) h2;rw[a5N (by omega),D3,a5U h,show(1000:Int)=((1000:Nat):Int)from rfl,e,a5I];cases (mdF fee 1000 gas).2 with
  |true=>rw[a5W rfl];rfl
  |false=>rw[a5U (by decide)];rfl
end Go.Proofs.YtjbgdpjgfjnkbaaGreatDoor.Am
