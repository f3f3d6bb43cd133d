/- Texts laid together: PSort, PAtE, PHasI, PTot, PName. No conditions. -/
import Derived.Test.YtjbgdpjgfjnkbaaGreatDoorFAll
import Derived.Test.YtjbgdpjgfjnkbaaGreatDoorQAH
import Derived.KernelRfl
namespace Go.Proofs.YtjbgdpjgfjnkbaaGreatDoor.Am
open Go
def Uc (x y:Int):Int:=if x < y then -1 else if y < x then 1 else 0
theorem VE (x y:Int):fo x y=some (Uc x y):=by
 refine J3.1 ?_;simp only [fo,iz,A7,A5,A4,a2W,a2U,a20,a2Z,Uc];refine⟨λh=>(h trivial).elim,λ_=>⟨λh=>(h trivial).elim,λ_=>⟨λh=>by rw [a28 h],λh=>⟨λh2=>by rw [a25 h,a28 h2],λh2=>by rw [a25 h,a25 h2]⟩⟩⟩⟩
theorem VF (x y:Int):ji x y=some (Uc x y):=by
 refine J3.1 ?_;simp only [ji,lg,A7,A5,A4,a2W,a2U,a20,a2Z,Uc];refine⟨λh=>(h trivial).elim,λ_=>⟨λh=>(h trivial).elim,λ_=>⟨λh=>by rw [a28 h],λh=>⟨λh2=>by rw [a25 h,a28 h2],λh2=>by rw [a25 h,a25 h2]⟩⟩⟩⟩
theorem YZ (a b:Int):ow [a,b]=some (if a=0 then b else a):=by
 refine J3.1 ?_;unfold ow qL;refine D8 [a,b] (λi (_:Unit)=>((0:Int),[a,b],(([a,b].length:Nat):Int),((i:Nat):Int))) (λi _=>(0 < i->a=0)/\(1 < i->b=0)) (λi _ hi hinv=>?_) (λ_ hinv=>?_) (b0:=()) ⟨by omega,by omega⟩ (by simp)
 ·have hi2:i=0\/i=1:=by simp at hi;omega
  simp only [lh,D2 (i:=i) (by omega),A7,D4,A4,B5,B8,a2W,a2U,a20,a2Z,a2T];refine⟨λ_=>⟨by omega,λh=>?_,λh=>⟨(),by simp,?_⟩⟩,λh=>by omega⟩
  ·rcases hi2 with rfl | rfl
   ·have h':¬ a=0:=by simpa using h
    rw [a25 h'];rfl
   ·rw [a28 (hinv.1 (by omega))];rfl
  ·rcases hi2 with rfl | rfl
   ·have h':a=0:=by simpa using h
    exact⟨λ_=>h',λh=>by omega⟩
   ·have h':b=0:=by simpa using h
    exact⟨λ_=>hinv.1 (by omega),λ_=>h'⟩
 ·simp only [lh,A7,D4,A4,B5,B8,a2W,a2U,a20,a2Z,a2T];refine⟨λh=>by omega,λ_=>?_⟩;have h1:=hinv.1 (by simp);have h2:=hinv.2 (by simp);rw [a28 h1,h2]
def cE (a b:o5):Int:=if Uc b.2.2.2.2.2.1 a.2.2.2.2.2.1=0 then Uc a.2.2.2.2.2.2.2.2.1 b.2.2.2.2.2.2.2.2.1 else Uc b.2.2.2.2.2.1 a.2.2.2.2.2.1
theorem VG (a b:o5):aF a b=some (cE a b):=by
 simp only [aF,VE,VF,a2X,YZ,cE]
theorem Gl {a b:o5}:ltc cE a b=true ↔ b.2.2.2.2.2.1 < a.2.2.2.2.2.1\/(a.2.2.2.2.2.1=b.2.2.2.2.2.1/\a.2.2.2.2.2.2.2.2.1 < b.2.2.2.2.2.2.2.2.1):=by
 unfold ltc cE Uc;rw [a2W];generalize a.2.2.2.2.2.1=x;generalize b.2.2.2.2.2.1=y;generalize a.2.2.2.2.2.2.2.2.1=p;generalize b.2.2.2.2.2.2.2.2.1=q;by_cases h1:y < x
 ·simp [h1]
 ·by_cases h2:x < y
  ·simp [h1,h2];omega
  ·simp only [h1,h2,a3y,a3H];by_cases h3:p < q
   ·simp [h3];omega
   ·by_cases h4:q < p <;> simp [h3,h4]
theorem xh {a b:o5}:ltc cE a b=false ↔ ¬ (b.2.2.2.2.2.1 < a.2.2.2.2.2.1\/(a.2.2.2.2.2.1=b.2.2.2.2.2.1/\a.2.2.2.2.2.2.2.2.1 < b.2.2.2.2.2.2.2.2.1)):=by
 rw [<-Gl,a5b]
theorem a2h:Swo (ltc cE):=⟨λa=>by rw [xh];omega,λa b h=>by rw [Gl] at h;rw [xh];omega,λa b c h k=>by rw [xh] at h k ⊢;omega⟩
def jX (l:List o5):List o5:=iH (ltc cE) l
def a1e (e:o5):Prop:=e.2.1.length<=140737488351232/\e.2.2.2.2.2.2.2.2.2.length * 8<=140737488351232
def VH (l:List o5):Prop:=l.length * 144<=140737488351232/\∀ e ∈ l,a1e e
theorem DK {u:U} {by_:Nat} {l:List u.den} (h:l.length * by_<=140737488351232) (hb:1<=by_):wt by_ l=some l:=by
 unfold wt;have h1:l.length * 1<=l.length * by_:=Nat.mul_le_mul_left _ hb;rw [a3z,a2S (by unfold LIM LEN;omega)];rfl
theorem rY {n:Nat} (h:n<=977343669105):n * 144<=LIM/\n<=LEN:=by unfold LIM LEN;omega
theorem Gm {e:o5} (h:a1e e):nW e=some e:=by
 have h1:kE e.2.1=some e.2.1:=DK (u:= .byte) (by_:=1) (by rw [Nat.mul_one];exact h.1) (by omega);have h2:lJ e.2.2.2.2.2.2.2.2.2=some e.2.2.2.2.2.2.2.2.2:=DK (u:= .int .i64) (by_:=8) h.2 (by omega);simp only [nW,h1,h2,a2X]
theorem Ce {l:List o5} (h:VH l):nH l=some l:=by
 refine J3.1 ?_;obtain⟨h1,h2⟩:=h;unfold nH pu;refine D8 l (λi (acc:List o5)=>(l,((l.length:Nat):Int),((i:Nat):Int),acc)) (λi acc=>acc=l.take i) (λi acc hi hinv=>?_) (λacc hinv=>?_) (b0:=[]) rfl (by omega)
 ·subst hinv;have he:nW (l.getD i C0)=some (l.getD i C0):=Gm (h2 _ (by rw [E0 hi];exact a29 hi));simp only [ka,D2 (i:=i) (by omega),he,A7,D4,A5,A4,B5,B8,a2W,a2U,a2T];refine⟨λ_=>⟨by omega,⟨by rw [a26];unfold LIM;omega,by rw [a26];unfold LEN;omega⟩,_,rfl,?_⟩,λh=>by omega⟩;rw [I2 hi,E0 hi]
 ·subst hinv;simp only [ka,A7,D4,A5,A4,B5,B8,a2W,a2U,a2T];exact⟨λh=>by omega,λ_=>by rw [a3i]⟩
theorem rZ (l:List o5):(jX l).length=l.length:=X8 _ l
theorem lA {l:List o5} {e:o5}:e ∈ jX l ↔ e ∈ l:=NF a2h
theorem Gn (l:List o5):H6 l=NS C0 aF l:=by kernel_rfl
theorem Cf {l:List o5} (h:VH l):nI l=some (jX l):=by
 have hl:=h.1;unfold nI;rw [Ce h,a2X,Gn,NY VG a2h (by omega)];rfl
theorem DL {e:o5} {v7:List o5} {v8:Int} {i:Nat} {out:List o5} (hl:out.length < 977343669105) (hi:i < 1000000000000):eV ((out.length:Nat):Int) v7 v8 (i:Int) e out=some (.inl (v7,v8,((i + 1:Nat):Int),wM (ltc cE) e out)):=by
 unfold eV;refine J3.1 (T2 (λn v=>∃ s t,s.length=n/\out=s ++ t/\wM (ltc cE) e out=wM (ltc cE) e s ++ t/\v=(((s.length:Nat):Int),v7,v8,(i:Int),e,out)) ?_ ⟨out,[],rfl,by simp,by simp,rfl⟩ (by omega));rintro n v ⟨s,t,rfl,rfl,hins,rfl⟩;simp only [a2V] at hl;have place:wM (ltc cE) e s=s ++ [e]->Ok (P1 ((s.length:Nat):Int) v7 v8 (i:Int) e (s ++ t)) λr=>r= .inl (v7,v8,((i + 1:Nat):Int),wM (ltc cE) e (s ++ t)):=λhp=>by
  have e1:(s ++ t).take s.length=s:=a3Q;have e2:((s ++ t).take (Int.toNat (((List.length (s ++ t)):Nat):Int))).drop s.length=t:=by rw [a2T,a3i,a3F]
  have e3:(s ++ [e]).length=s.length + 1:=by rw [a2V];rfl
  have e4:(s ++ t).length=s.length + t.length:=a2V;simp only [P1,D2 (i:=i) (by omega),D4,A4,a2W];rw [a2T (n:=s.length),e2,e1,e3,e4];refine⟨by omega,rY (by omega),rY (by omega),by omega,rY (by omega),?_⟩;rw [hins,hp]
 dsimp only;rcases a3I s.length with h0 | h0
 ·have:=a3e h0;subst this;simp only [bl,A7,C9,a2W,a2U];exact⟨λh=>by simp at h,λ_=>place (by rw [xg];rfl)⟩
 ·obtain⟨s2,y,rfl⟩:=qC h0;have e3:(s2 ++ [y]).length=s2.length + 1:=by rw [a2V];rfl
  rw [e3] at hl;have w0:A9 ((((s2 ++ [y]).length:Nat):Int) - 1)=((s2.length:Nat):Int):=by rw [e3,C8] <;> omega
  have e5:(s2 ++ [y] ++ t)=s2 ++ y :: t:=by rw [a3c];rfl
  have gy:(s2 ++ [y] ++ t).getD s2.length C0=y:=by rw [e5];exact kp rfl
  have e4:(s2 ++ [y] ++ t).length=s2.length + 1 + t.length:=by rw [a2V,e3]
  have hlt:=Gl (a:=e) (b:=y);have go:ltc cE e y=true->∃ m,m < (s2 ++ [y]).length/\∃ s t',s.length=m/\s2 ++ [y] ++ t=s ++ t'/\wM (ltc cE) e (s2 ++ [y] ++ t)=wM (ltc cE) e s ++ t'/\(((s2.length:Nat):Int),v7,v8,(i:Int),e,s2 ++ [y] ++ t)=(((s.length:Nat):Int),v7,v8,(i:Int),e,s2 ++ [y] ++ t):=λhl=>by
   refine⟨s2.length,by omega,s2,y :: t,rfl,e5,?_,rfl⟩;rw [hins,rW,a28 hl,a3c];rfl
  have stop:ltc cE e y=false->wM (ltc cE) e (s2 ++ [y])=s2 ++ [y] ++ [e]:=λhl=>by
   rw [rW,hl,a3c];rfl
  have stop':¬ (y.2.2.2.2.2.1 < e.2.2.2.2.2.1\/(e.2.2.2.2.2.1=y.2.2.2.2.2.1/\e.2.2.2.2.2.2.2.2.1 < y.2.2.2.2.2.2.2.2.1))->ltc cE e y=false:=λh=>xh.2 h;simp only [bl,w0,A7,D4,A4,C9,B5,B8,a2W,a2U,a2T,gy,e4];refine⟨λ_=>⟨by omega,by omega,λh1=>go (hlt.2 (.inl h1)),λh1=>⟨by omega,by omega,λh2=>⟨by omega,by omega,λh3=>go (hlt.2 (.inr ⟨h2.symm,h3⟩)),λh3=>place (stop (stop' (by omega)))⟩,λh2=>place (stop (stop' (by omega)))⟩⟩,λh=>by omega⟩
theorem wx {l:List o5} (h:l.length * 144<=140737488351232):aL l=some (jX l):=by
 refine J3.1 ?_;unfold aL jR;refine D8 l (λi (acc:List o5)=>(l,((l.length:Nat):Int),((i:Nat):Int),acc)) (λi acc=>acc=jX (l.take i)) (λi acc hi hinv=>?_) (λacc hinv=>?_) (b0:=[]) rfl (by omega)
 ·subst hinv;have hlen:(jX (l.take i)).length=i:=by rw [rZ,a26];omega
  have h3:=DL (e:=l.getD i C0) (v7:=l) (v8:=((l.length:Nat):Int)) (i:=i) (out:=jX (l.take i)) (by omega) (by omega);simp only [bm,A7,D4,A4,B8,a2W,a2U,a2T,h3];refine⟨λ_=>⟨by omega,?_⟩,λh=>by omega⟩;rw [B5];refine⟨_,rfl,?_⟩;rw [I2 hi,E0 hi];show wM (ltc cE) l[i] (iH (ltc cE) (l.take i))=iH (ltc cE) (l.take i ++ [l[i]]);rw [pN]
 ·subst hinv;simp only [bm,A7,D4,A4,B8,a2W,a2U,a2T];exact⟨λh=>by omega,λ_=>by rw [a3i]⟩
abbrev ED:=o5
abbrev KD:=Vector UInt8 32
theorem Za (a b:KD):U.beq (.arr 32 .byte) a b=decide (a=b):=by
 have h:U.beq (.arr 32 .byte) a b=true ↔ @Eq KD a b:=U.beq_iff (.arr 32 .byte) _ rfl a b;by_cases e:a=b
 ·rw [a2S e];exact h.2 e
 ·rw [a2Y e,<-a5b];exact λk=>e (h.1 k)
def isK (k:KD) (e:ED):Bool:=decide (e.1=k)
def atE (l:List ED) (k:KD):Int:=((l.findIdx? (isK k)).map λ(i:Nat)=>(i:Int)).getD (-1)
theorem RH {l:List ED} (hl:l.length<=1000000) (k:KD):aj l k=some (atE l k):=by
 refine J3.1 ?_;unfold aj mM;refine D8 l (λi (_:Unit)=>(l,((l.length:Nat):Int),((i:Nat):Int),k)) (λi _=>∀ e ∈ l.take i,isK k e=false) (λi _ hi hne=>?_) (λ_ hne=>?_) (b0:=()) (by simp) (by omega)
 ·simp only [fe,D2 (i:=i) (by omega),A7,D4,A4,B5,B8,a2W,a2U,a2T,E0 hi,Za];refine⟨λ_=>⟨by omega,λhk=>?_,λhk=>⟨(),trivial,λe he=>?_⟩⟩,λh=>by omega⟩
  ·have:l.findIdx? (isK k)=some i:=by
    rw [List.findIdx?_eq_some_iff_getElem];refine⟨hi,a2S hk,λj hj=>?_⟩;have:=hne l[j] (List.mem_take_iff_getElem.2 ⟨j,by omega,rfl⟩);rw [this];decide
   unfold atE;rw [this];rfl
  ·rw [I2 hi] at he;rcases List.mem_append.1 he with he | he
   ·exact hne e he
   ·rw [List.mem_singleton.1 he];exact a2Y hk
 ·rw [a3i] at hne;simp only [fe,A7,D4,A4,B5,B8,a2W,a2U,a2T];refine⟨λh=>by omega,λ_=>?_⟩;have:l.findIdx? (isK k)=none:=by rw [List.findIdx?_eq_none_iff];exact hne
  unfold atE;rw [this];rfl
theorem NZ {l:List ED} {k:KD} (h:∀ e ∈ l,e.1 ≠ k):atE l k= -1:=by
 unfold atE;have:l.findIdx? (isK k)=none:=List.findIdx?_eq_none_iff.2 λe he=>a2Y (h e he);rw [this];rfl
theorem Gp {l:List ED} {k:KD} (h:∃ e ∈ l,e.1=k):∃ i:Nat,atE l k=(i:Int)/\l.findIdx? (isK k)=some i/\∃ hi:i < l.length,l[i].1=k:=by
 cases hf:l.findIdx? (isK k) with
 | none=>
  obtain⟨e,he,hk⟩:=h;have:=List.findIdx?_eq_none_iff.1 hf e he;unfold isK at this;rw [a2S hk] at this;cases this
 | some i=>
  obtain⟨hi,h1,_⟩:=List.findIdx?_eq_some_iff_getElem.1 hf;exact⟨i,by unfold atE;rw [hf];rfl,rfl,hi,a23 h1⟩
theorem Kx {l:List ED} (hl:l.length<=1000000) {i:Nat} (hi:i < l.length):dv l (i:Int)=some (l.eraseIdx i):=by
 refine J3.1 ?_;have e1:(l.take (Int.toNat ((l.length:Nat):Int))).drop (i + 1)=l.drop (i + 1):=by rw [a2T,a3i]
 simp only [dv,D2 (i:=i) (by omega),D4,A4,a2W,a2T,a26,a3a,a3i];refine⟨by omega,rY (by omega),by omega,rY (by omega),?_⟩;rw [List.eraseIdx_eq_take_drop_succ]
theorem DM {l:List Int} (hl:l.length<=1000000) (x:Int):bJ l x=some (decide (x ∈ l)):=by
 refine J3.1 ?_;unfold bJ kA;refine D8 l (λi (_:Unit)=>(x,l,((l.length:Nat):Int),((i:Nat):Int))) (λi _=>x ∉ l.take i) (λi _ hi hinv=>?_) (λ_ hinv=>?_) (b0:=()) (by simp) (by omega)
 ·simp only [cj,D2 (i:=i) (by omega),A7,D4,A4,B5,B8,a2W,a2U,a2T,E0 hi];refine⟨λ_=>⟨by omega,λh=>?_,λh=>⟨(),trivial,?_⟩⟩,λh=>by omega⟩
  ·subst h;simp
  ·rw [I2 hi,a4E];rintro(h1 | h1)
   ·exact hinv h1
   ·exact h (List.mem_singleton.1 h1).symm
 ·rw [a3i] at hinv;simp only [cj,A7,D4,A4,B5,B8,a2W,a2U,a2T];exact⟨λh=>by omega,λ_=>by simp [hinv]⟩
def okU (n:Int):Prop:=0<=n/\n < 18446744073709551616
def oq (l:List o6):Int:=(l.map λa=>a.2.1).sum
def uq (l:List o6):Prop:=∀ a ∈ l,okU a.2.1
theorem yJ:∀ {l:List Int},(∀ x ∈ l,0<=x)->0<=l.sum
 | [],_=>by simp
 | x :: l,h=>by
  have h1:=h x a3V;have h2:=yJ (l:=l) λy hy=>h y (a3t _ hy);rw [a35];omega
theorem VI (l:List Int) (i:Nat):l.sum=(l.take i).sum + (l.drop i).sum:=by
 rw [<-a4k,a3q]
theorem ur {l:List Int} (h:∀ x ∈ l,0<=x) (i:Nat):(l.take i).sum<=l.sum:=by
 have h1:=VI l i;have h2:=yJ (l:=l.drop i) λy hy=>h y (a4O hy);omega
theorem IC {l:List Int} {i:Nat} (h:i < l.length):(l.take (i + 1)).sum=(l.take i).sum + l[i]:=by
 rw [I2 h,a4k];simp
def uy (s:Int):Int × Bool:=if s < 18446744073709551616 then(s,true) else(0,false)
theorem RI {x y:Int} (hx:0<=x) (hy:0<=y):lZ x y=some (uy (x + y)):=by
 unfold lZ uy;rw [a2S (⟨hx,hy⟩:0<=x/\0<=y),C4];by_cases h:x + y < 18446744073709551616
 ·rw [a2S h,a28 h];rfl
 ·rw [a2Y h,a25 h];rfl
theorem Oa {x y:Int} (hx:okU x) (hy:okU y):fI x y=some (uy (x + y)):=by
 unfold fI uy;unfold okU at hx hy;rw [J4 (n:=18446744073709551615 - y) (by omega) (by omega)];by_cases h:x + y < 18446744073709551616
 ·rw [a2Y (by omega),E3,a28 h,J4 (by omega) (by omega)]
 ·rw [a2S (by omega),E8,a25 h]
theorem Cg {l:List Int} (h:∀ x ∈ l,okU x) (hl:l.length<=5000000000000):mc l=some (uy l.sum):=by
 have hnn:∀ x ∈ l,0<=x:=λx hx=>(h x hx).1;rw [<-J3];unfold mc rB;refine D8 l (λi (b:Int)=>(b,l,((l.length:Nat):Int),((i:Nat):Int))) (λi b=>b=(l.take i).sum/\okU b) (λi b hi hv=>?_) (λb hv=>?_) (b0:=0) ⟨by simp,by unfold okU;omega⟩ (by omega)
 ·obtain⟨hb,hb1,hb2⟩:=hv;have h1:=h l[i] (a29 hi);have h2:=ur hnn (i + 1);have h3:=IC hi;have h4:=h1.1;unfold mu;dsimp only;rw [a2S (by omega:(i:Int) < ((l.length:Nat):Int)),E8,a2S (by omega:(0:Int)<=(i:Int)/\(i:Int) < ((l.length:Nat):Int)),C4,a2T,E0 hi,RI hb1 h1.1,a2X,D2 (by omega)];unfold uy;by_cases hs:b + l[i] < 18446744073709551616
  ·rw [a28 hs];simp only [a3m,E3,A4,B5];exact⟨_,rfl,by rw [h3,hb],by unfold okU;omega⟩
  ·rw [a25 hs];simp only [a3r,E8,A4,B8];rw [a25 (by omega)]
 ·obtain⟨hb,hb1⟩:=hv;rw [a3i] at hb;unfold mu;dsimp only;rw [a2Y (by omega),E3,A4,B8];unfold uy;rw [a28 (by rw [<-hb];exact hb1.2),hb]
theorem RJ {g:o8} (hc:okU g.2) (h:uq g.1) (hl:g.1.length<=4398046511000):mv g=some (uy (g.2 + oq g.1)):=by
 obtain⟨l,c⟩:=g;dsimp only at hc h hl ⊢;rw [<-J3];unfold mv oy;dsimp only;refine D8 l (λi (b:List Int)=>(l,((l.length:Nat):Int),((i:Nat):Int),b)) (λi b=>b=c :: (l.take i).map λa=>a.2.1) (λi b hi hv=>?_) (λb hv=>?_) (b0:=[c]) rfl (by omega)
 ·have hbl:b.length=i + 1:=by rw [hv];simp only [a27,a3d,a26];omega
  unfold jj;dsimp only;rw [a2S (by omega:(i:Int) < ((l.length:Nat):Int)),E8,a2S (by omega:(0:Int)<=(i:Int)/\(i:Int) < ((l.length:Nat):Int)),C4,a2S (by rw [hbl];exact⟨by unfold LIM;omega,by unfold LEN;omega⟩),C4,a2T,E0 hi,A4,B5,D2 (by omega)];exact⟨_,rfl,by rw [I2 hi,a3g,hv];rfl⟩
 ·rw [a3i] at hv;unfold jj mf;dsimp only;rw [a2Y (by omega),E3,Cg (l:=b) (by
   rw [hv];intro x hx;rcases List.mem_cons.1 hx with rfl | hx
   ·exact hc
   ·obtain⟨a,ha,rfl⟩:=List.mem_map.1 hx;exact h a ha) (by rw [hv];simp only [a27,a3d];omega),a2X,a3s,A4,B8,hv,a35]
  rfl
theorem Ob {g:o8} (hc:okU g.2) (h:uq g.1) (hl:g.1.length<=4398046511000):bG g=some (uy (g.2 + oq g.1)):=by
 obtain⟨l,c⟩:=g;dsimp only at hc h hl ⊢;have hnn:∀ x ∈ (l.map λa=>a.2.1),0<=x:=λx hx=>by
  obtain⟨a,ha,rfl⟩:=List.mem_map.1 hx;exact(h a ha).1
 rw [<-J3];unfold bG ky;dsimp only;refine D8 l (λi (b:Int)=>(b,l,((l.length:Nat):Int),((i:Nat):Int))) (λi b=>b=c + oq (l.take i)/\okU b) (λi b hi hv=>?_) (λb hv=>?_) (b0:=c) ⟨by simp [oq],hc⟩ (by omega)
 ·obtain⟨hb,hb1⟩:=hv;have h1:=h l[i] (a29 hi);have h2:=ur hnn (i + 1);have h3:oq (l.take (i + 1))=oq (l.take i) + l[i].2.1:=by unfold oq;rw [I2 hi,a3g,a4k];simp
  have h4:=h1.1;have h5:oq (l.take (i + 1))<=oq l:=by unfold oq;rw [a4h];exact h2
  have h6:=hb1.1;unfold ci;dsimp only;rw [a2S (by omega:(i:Int) < ((l.length:Nat):Int)),E8,a2S (by omega:(0:Int)<=(i:Int)/\(i:Int) < ((l.length:Nat):Int)),C4,a2T,E0 hi,Oa hb1 h1,a2X,D2 (by omega)];unfold uy;by_cases hs:b + l[i].2.1 < 18446744073709551616
  ·rw [a28 hs];simp only [a3m,E3,A4,B5];exact⟨_,rfl,by rw [h3,hb];omega,by unfold okU;omega⟩
  ·rw [a25 hs];simp only [a3r,E8,A4,B8];rw [a25 (by omega)]
 ·obtain⟨hb,hb1⟩:=hv;rw [a3i] at hb;unfold ci;dsimp only;rw [a2Y (by omega),E3,A4,B8];unfold uy;rw [a28 (by rw [<-hb];exact hb1.2),hb]
def sa (x:UInt8):Prop:=(97<=x.toNat/\x.toNat<=122)\/(48<=x.toNat/\x.toNat<=57)\/x.toNat=45
instance (x:UInt8):Decidable (sa x):=by unfold sa;infer_instance
def ap (s:List UInt8):Bool:=s.all (λx=>decide (sa x)) && decide (1<=s.length/\s.length<=20)
theorem DN {s:List UInt8} {i:Nat} (h:i < s.length) (hn:¬ sa s[i]):ap s=false:=by
 unfold ap;have:s.all (λx=>decide (sa x))=false:=by
  rw [List.all_eq_false];exact⟨s[i],a29 h,by simpa using hn⟩
 rw [this];rfl
theorem Ar {s:List UInt8} (h:∀ j (hj:j < s.length),sa s[j]):ap s=decide (1<=s.length/\s.length<=20):=by
 unfold ap;have:s.all (λx=>decide (sa x))=true:=by
  rw [a4f];intro x hx;obtain⟨j,hj,rfl⟩:=List.mem_iff_getElem.1 hx;simpa using h j hj
 rw [this];rfl
theorem Oc {s:List UInt8} {i:Nat} (h:i < s.length) (hl:s.length<=1000000000000000):Ok (jM s ((s.length:Nat):Int) ((i:Nat):Int)) (· =if sa s[i] then .inl (s,((s.length:Nat):Int),((i + 1:Nat):Int)) else .inr false):=by
 simp only [jM,A7,D4,A4,C9,a2W,a2U,a20,a2Z,a2T,E0 h,D2 (i:=i) (by omega)];generalize s[i]=x;have hx:=x.toNat_lt;refine⟨λ_=>⟨by omega,?_⟩,λh=>absurd h (by omega)⟩
 repeat' first | apply And.intro | intro _
 all_goals first | (exfalso;omega) | (rw [a28 (by unfold sa;omega)]) | (rw [a25 (by unfold sa;omega)])
theorem Gq {s:List UInt8} (hl:s.length<=1000000000000000):ma s=some (ap s):=by
 rw [<-J3];unfold ma rA;refine D8 s (λi (_:Unit)=>(s,((s.length:Nat):Int),((i:Nat):Int))) (λi _=>∀ j (hj:j < s.length),j < i->sa s[j]) (λi _ hi hv=>?_) (λ_ hv=>?_) (b0:=()) (λj hj h=>by omega) (by omega)
 ·refine(Oc hi hl).mono λr hr=>?_;subst hr;by_cases hn:sa s[i]
  ·rw [a28 hn,B5];refine⟨(),rfl,λj hj hlt=>?_⟩;by_cases e:j=i
   ·subst e;exact hn
   ·exact hv j hj (by omega)
  ·rw [a25 hn,B8,DN hi hn]
 ·rw [Ar (λj hj=>hv j hj hj)];simp only [jM,oR,A7,D4,A4,C9,B5,B8,a2W,a2U,a20,a2Z,a2T];refine⟨λh=>absurd h (by omega),λ_=>⟨λh=>?_,λh=>?_⟩⟩
  ·rw [decide_eq_decide];omega
  ·symm;rw [a2U];omega
theorem Ky {s:List UInt8} {i:Nat} (h:i < s.length) (hl:s.length<=1000000000000000):Ok (V1 s ((i:Nat):Int)) (· =if sa s[i] then .inl (s,((i + 1:Nat):Int)) else .inr false):=by
 simp only [V1,A7,D4,A4,C9,a2W,a2U,a20,a2Z,a2T,E0 h,D2 (i:=i) (by omega)];generalize s[i]=x;have hx:=x.toNat_lt;refine⟨λ_=>⟨by omega,?_⟩,λh=>absurd h (by omega)⟩
 repeat' first | apply And.intro | intro _
 all_goals first | (exfalso;omega) | (rw [a28 (by unfold sa;omega)]) | (rw [a25 (by unfold sa;omega)])
theorem xi {s:List UInt8} (hl:s.length<=1000000000000000):Q3 s=some (ap s):=by
 rw [<-J3];unfold Q3 jK;refine D8 s (λi (_:Unit)=>(s,((i:Nat):Int))) (λi _=>∀ j (hj:j < s.length),j < i->sa s[j]) (λi _ hi hv=>?_) (λ_ hv=>?_) (b0:=()) (λj hj h=>by omega) (by omega)
 ·refine(Ky hi hl).mono λr hr=>?_;subst hr;by_cases hn:sa s[i]
  ·rw [a28 hn,B5];refine⟨(),rfl,λj hj hlt=>?_⟩;by_cases e:j=i
   ·subst e;exact hn
   ·exact hv j hj (by omega)
  ·rw [a25 hn,B8,DN hi hn]
 ·rw [Ar (λj hj=>hv j hj hj)];simp only [V1,fH,A7,D4,A4,C9,B5,B8,a2W,a2U,a20,a2Z,a2T];refine⟨λh=>absurd h (by omega),λ_=>⟨λh=>?_,λh=>?_⟩⟩
  ·rw [decide_eq_decide];omega
  ·symm;rw [a2U];omega
end Go.Proofs.YtjbgdpjgfjnkbaaGreatDoor.Am
