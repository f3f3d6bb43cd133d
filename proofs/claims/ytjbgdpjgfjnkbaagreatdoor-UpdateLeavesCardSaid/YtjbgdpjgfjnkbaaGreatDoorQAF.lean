/- Texts laid together: PShaM, PShaS, PShaN, PDigB, PRootN, PSize, PStV, PRun, PChk, PSameL, PFold. No conditions. -/
import Derived.Test.YtjbgdpjgfjnkbaaGreatDoorQAE
namespace Go.Proofs.YtjbgdpjgfjnkbaaGreatDoor.Am
open Go
abbrev H8:=Vector Int 8
theorem Xk{i:Nat}(h:i<1000):B3 (4*(i:Int))=((4*i:Nat):Int):=by rw[D9] <;> omega
theorem CG{i:Nat}{c:Int}(h:i<1000000) (h0:0<=c) (h1:c<=1000000):B3 ((i:Int)+c)=((i+c.toNat:Nat):Int):=by rw[D9] <;> omega
theorem Ew{i:Nat}{c:Int}(h:i<1000000) (h0:0<=c) (h1:c<=(i:Int)):B3 ((i:Int)-c)=((i-c.toNat:Nat):Int):=by rw[D9] <;> omega
theorem Rn(zz w:Vector Int 64){i:Nat}(hi:16<=i) (hi2:i<=64):Ok (bV (i:Int) zz w) λ_=>True:=by
 unfold bV;refine L5 (λn v=>∃(i:Nat) (w:Vector Int 64),v=((i:Int),zz,w)/\16<=i/\i<=64/\n=64-i) ?_ (n:=64-i) ⟨i,w,rfl,hi,hi2,rfl⟩ (by omega);rintro n v ⟨i,w,rfl,h1,h2,rfl⟩;unfold gJ;dsimp only;obtain⟨_,_,r7,_,_,_,r18,_⟩:=nY (L0 w (Int.toNat (B3 ((i:Int)-15))) (0:Int));obtain⟨_,_,_,_,_,p17,_,p19,_⟩:=nY (L0 w (Int.toNat (B3 ((i:Int)-2))) (0:Int));rw[r7,r18,p17,p19];simp only[A5,D8,A1,A8,B5,a5M,a5L,a5J,a5I,C1 (i:=i) (by omega)];refine⟨λh=>?_,λ_=>trivial⟩;rw[Ew (i:=i) (c:=15) (by omega) (by omega) (by omega),Ew (i:=i) (c:=2) (by omega) (by omega) (by omega),Ew (i:=i) (c:=7) (by omega) (by omega) (by omega),Ew (i:=i) (c:=16) (by omega) (by omega) (by omega)];simp only[a5J];exact⟨by omega,by omega,by omega,by omega,by omega,by omega,by omega,by omega,by omega,by omega,64-(i+1),by omega,i+1,_,rfl,by omega,by omega,rfl⟩
theorem VB{b:List UInt8}(hb:b.length=64) (zz w:Vector Int 64):Ok (bW b 0 zz w) λ_=>True:=by
 unfold bW;refine L5 (λn v=>∃(i:Nat) (w:Vector Int 64),v=(b,(i:Int),zz,w)/\i<=16/\n=16-i) ?_ (n:=16) ⟨0,w,rfl,by omega,rfl⟩ (by omega);rintro n v ⟨i,w,rfl,h2,rfl⟩;unfold gK;dsimp only;rw[A5];refine⟨λh=>?_,λh=>?_⟩
 ·have h:=a5P h;rw[Xk (i:=i) (by omega),CG (i:=4*i) (c:=1) (by omega) (by omega) (by omega),CG (i:=4*i) (c:=2) (by omega) (by omega) (by omega),CG (i:=4*i) (c:=3) (by omega) (by omega) (by omega)];simp only[D8,A1,A8,a5M,a5J,C1 (i:=i) (by omega)];rw[hb];exact⟨by omega,by omega,by omega,by omega,by omega,by omega,16-(i+1),by omega,i+1,_,rfl,by omega,rfl⟩
 ·rw[C4];unfold jV;exact(Rn zz w (i:=16) (by omega) (by omega)).mono λr _=>trivial
theorem a2q(a z s:H8):Ok (bm 0 a z s) λ_=>True:=by
 unfold bm;refine L5 (λn v=>∃(i:Nat) (a:H8),v=((i:Int),a,z,s)/\i<=8/\n=8-i) ?_ (n:=8) ⟨0,a,rfl,by omega,rfl⟩ (by omega);rintro n v ⟨i,a,rfl,h2,rfl⟩;unfold gi;dsimp only;simp only[A5,D8,A1,A8,B5,a5M,a5L,a5J,C1 (i:=i) (by omega)];exact⟨λh=>⟨by omega,by omega,by omega,by omega,by omega,by omega,8-(i+1),by omega,i+1,_,rfl,by omega,rfl⟩,λ_=>trivial⟩
theorem Ro(a z:H8) (w k:Vector Int 64) (s:H8):Ok (X8 0 a z w k s) λ_=>True:=by
 unfold X8;refine L5 (λn v=>∃(i:Nat) (s:H8),v=((i:Int),a,z,w,k,s)/\i<=64/\n=64-i) ?_ (n:=64) ⟨0,s,rfl,by omega,rfl⟩ (by omega);rintro n v ⟨i,s,rfl,h2,rfl⟩;unfold cJ;dsimp only;obtain⟨r2,r6,_,r11,r13,_,_,_,r22,r25⟩:=nY (L0 s 4 (0:Int));obtain⟨p2,p6,_,p11,p13,_,_,_,p22,p25⟩:=nY (L0 s 0 (0:Int));rw[r6,r11,r25,p2,p13,p22];rw[A5];refine⟨λh=>?_,λh=>?_⟩
 ·have h:=a5P h;simp only[D8,A1,A8,a5M,a5J,a5I,C1 (i:=i) (by omega)];exact⟨by omega,by omega,by omega,by omega,64-(i+1),by omega,i+1,_,rfl,by omega,rfl⟩
 ·rw[C4];unfold gj;exact(a2q a z s).mono λr _=>trivial
theorem VC(a:H8){b:List UInt8}(hb:b.length=64):∃r,T5 a b=some r:=by
 obtain⟨w,hw,_⟩:=VB hb (Vector.replicate 64 (0:Int)) (Vector.replicate 64 (0:Int));have hk:∃k,lM=some k:=⟨_,rfl⟩;obtain⟨k,hk⟩:=hk;obtain⟨r,hr,_⟩:=Ro a (Vector.replicate 8 (0:Int)) w k a;refine⟨r,?_⟩;unfold T5 nr;rw[hw,a5I,hk,a5I,hr]
def VD(a:H8) (b:List UInt8):H8:=(T5 a b).getD a
theorem Rp(a:H8){b:List UInt8}(hb:b.length=64):T5 a b=some (VD a b):=by
 obtain⟨r,hr⟩:=VC a hb;unfold VD;rw[hr];rfl
theorem Zf(a:H8){b:List UInt8}(hb:b.length=64):dy a b=some (VD a b):=(VA a b).trans (Rp a hb)
def yC:Nat->H8->List UInt8->H8
 |0,h,_=>h
 |n+1,h,l=>yC n (VD h (l.take 64)) (l.drop 64)
theorem xb(r:Nat) (y:List UInt8):∀(q:Nat) (h:H8) (x:List UInt8),x.length=64*q->yC (q+r) h (x++y)=yC r (yC q h x) y
 |0,h,x,hx=>by
  have:x=[]:=a6f (by omega);subst this;rw[a6j];rfl
 |q+1,h,x,hx=>by
  rw[show q+1+r=(q+r)+1 by omega];show yC (q+r) (VD h ((x++y).take 64)) ((x++y).drop 64)=yC r (yC q (VD h (x.take 64)) (x.drop 64)) y;rw[a62 (by omega),a7h (by omega)];exact xb r y q _ _ (by rw[a5Y];omega)
def iv:H8:=Vector.push (Vector.push (Vector.push (Vector.push (Vector.push (Vector.push (Vector.push (Vector.push #v[] 1779033703) 3144134277) 1013904242) 2773480762) 1359893119) 2600822924) 528734635) 1541459225
abbrev DG:=Vector Int 8×List UInt8×Int
def Dig(d:DG) (m:List UInt8):Prop:=d=(yC (m.length / 64) iv m,m.drop (64*(m.length / 64)),((m.length:Nat):Int))
theorem Zg:∃d,Az=some d/\Dig d []:=⟨(iv,[],0),rfl,rfl⟩
theorem Ns{l:List UInt8}(hl:l.length<=140737488355328) (h:H8) (rest:List UInt8) (n:Int):iW l (h,rest,n)=some (yC (l.length / 64) h l,l.drop (64*(l.length / 64)),n):=by
 rw[<-J1];unfold iW;refine L5 (λk v=>∃(t:List UInt8) (g:H8),v=(t,(g,rest,n))/\t.length<=140737488355328/\k=t.length / 64/\yC (t.length / 64) g t=yC (l.length / 64) h l/\t.drop (64*(t.length / 64))=l.drop (64*(l.length / 64))) ?_ (n:=l.length / 64) ⟨l,h,rfl,hl,rfl,rfl,rfl⟩ (by omega);rintro k v ⟨t,g,rfl,ht,rfl,e1,e2⟩;unfold jF;dsimp only;rw[A5];refine⟨λhc=>?_,λhc=>?_⟩
 ·have hc:=a5P hc;have h64:(t.take 64).length=64:=by rw[a5T];omega
  obtain⟨q,hq⟩:∃q,t.length / 64=q+1:=⟨t.length / 64-1,by omega⟩;have hd:(t.drop 64).length / 64=q:=by rw[a5Y];omega
  rw[a5H (by omega),B7,Rp g h64,a5I,a5H (by omega),B7,a5J,a52,A1,A8];refine⟨q,by omega,t.drop 64,VD g (t.take 64),rfl,by rw[a5Y];omega,hd.symm,?_,?_⟩
  ·rw[hd,<-e1,hq];rfl
  ·rw[hd,<-e2,hq,a6A];congr 1;omega
 ·have hc:=a57 hc;have h0:t.length / 64=0:=by omega
  rw[h0]at e1 e2;unfold jE;rw[a5H ⟨by unfold LIM;omega,by unfold LEN;omega⟩,B7,a6e,A1,B5,<-e1,<-e2];rfl
theorem VE{x y:List UInt8}{q r:Nat}(hx:x.length=64*q):(x++y).drop (64*(q+r))=y.drop (64*r):=by
 rw[Nat.mul_add,<-a6A,<-hx,a6s]
theorem Rq{d:DG}{m b:List UInt8}(h:Dig d m) (hl:m.length+b.length<=140737488355000):∃d',jk d b=some d'/\Dig d' (m++b):=by
 unfold Dig at h;subst h;obtain⟨q,hq⟩:∃q,q=m.length / 64:=⟨_,rfl⟩;rw[<-hq];have hr:(m.drop (64*q)).length=m.length-64*q:=a5Y;have hll:(m.drop (64*q)++b).length=m.length-64*q+b.length:=by rw[a5K,hr]
 unfold jk;dsimp only;rw[hr,a5H ⟨by unfold LIM;omega,by unfold LEN;omega⟩,B7,a5H ⟨by unfold LIM;omega,by unfold LEN;omega⟩,B7,Ns (by rw[hll];omega)];refine⟨_,rfl,?_⟩;unfold Dig;have hx:(m.take (64*q)).length=64*q:=by rw[a5T];omega
 have hmb:m++b=m.take (64*q)++(m.drop (64*q)++b):=by rw[<-a50,a6d]
 have hn:(m++b).length / 64=q+(m.drop (64*q)++b).length / 64:=by rw[hll,a5K];omega
 have hbq:yC q iv (m.take (64*q))=yC q iv m:=by
  have h1:=xb 0 (m.drop (64*q)) q iv (m.take (64*q)) hx;rw[a6d]at h1;exact h1.symm
 refine Prod.ext ?_ (Prod.ext ?_ ?_)
 ·dsimp only;rw[hn,hmb,xb _ _ q iv _ hx,hbq]
 ·dsimp only;rw[hn,hmb];exact(VE hx).symm
 ·dsimp only;rw[a5K,D9 (by omega) (by omega)];omega
def zc(n:Nat):Nat:=(120-n%64)%64
theorem Rr(n:Nat):(n+zc n)%64=56/\∀j,j<zc n->(n+j)%64≠56:=by unfold zc;exact⟨by omega,λj hj=>by omega⟩
theorem VF(n:Nat):zc n<64:=a8P _ (by omega)
theorem a2r{n m:Nat}(h:n%64=m%64):zc n=zc m:=by unfold zc;rw[h]
theorem Xl(n:Nat):Int.tmod ((n:Nat):Int) 64=((n%64:Nat):Int):=rfl
theorem xU(l:List UInt8) (j:Nat):(l++List.replicate j (0:UInt8)).length=l.length+j:=by rw[a5K,a6t]
theorem Ly(l:List UInt8) (j:Nat):l++List.replicate j (0:UInt8)++[(0:UInt8)]=l++List.replicate (j+1) (0:UInt8):=by
 rw[a50];congr 1;exact(List.replicate_succ' ..).symm
theorem Nt{d:DG}{z1 z2:Vector UInt8 32}{l:List UInt8}{p:E0×Vector UInt8 32->Prop}(hl:l.length<=140737488355200) (h:Ok (iC d z1 z2 (l++List.replicate (zc l.length) (0:UInt8))) p):Ok (kr d z1 z2 l) p:=by
 have hz:=VF l.length;unfold kr;refine L5 (λn v=>∃j:Nat,v=(d,z1,z2,l++List.replicate j (0:UInt8))/\j<=zc l.length/\n=zc l.length-j) ?_ (n:=zc l.length) ⟨0,by rw[a79,a5Z],by omega,rfl⟩ (by omega);rintro n v ⟨j,rfl,hj,rfl⟩;unfold lp;dsimp only;rw[xU,Xl,A5];refine⟨λhc=>?_,λhc=>?_⟩
 ·have hc:¬(((l.length+j)%64:Nat):Int)=56:=by simpa using hc
  have hlt:j<zc l.length:=by
   rcases a6y j (zc l.length)with k|k
   ·exact k
   ·have e:j=zc l.length:=by omega
    have:=(Rr l.length).1;rw[<-e]at this;omega
  rw[a5H ⟨by unfold LIM;omega,by unfold LEN;omega⟩,B7,A1,A8,Ly];exact⟨zc l.length-(j+1),by omega,j+1,rfl,by omega,rfl⟩
 ·have hc:(((l.length+j)%64:Nat):Int)=56:=by simpa using hc
  have e:j=zc l.length:=by
   rcases a6y j (zc l.length)with k|k
   ·exact absurd (by omega) ((Rr l.length).2 j k)
   ·omega
  subst e;rw[C4];exact h
theorem Rs{m:List UInt8}{z1:Vector UInt8 32}{l:List UInt8}{p:Vector UInt8 32->Prop}(hl:l.length<=140737488355200) (h:Ok (fS m z1 (l++List.replicate (zc l.length) (0:UInt8))) p):Ok (jv m z1 l) p:=by
 have hz:=VF l.length;unfold jv;refine L5 (λn v=>∃j:Nat,v=(m,z1,l++List.replicate j (0:UInt8))/\j<=zc l.length/\n=zc l.length-j) ?_ (n:=zc l.length) ⟨0,by rw[a79,a5Z],by omega,rfl⟩ (by omega);rintro n v ⟨j,rfl,hj,rfl⟩;unfold kl;dsimp only;rw[xU,Xl,A5];refine⟨λhc=>?_,λhc=>?_⟩
 ·have hc:¬(((l.length+j)%64:Nat):Int)=56:=by simpa using hc
  have hlt:j<zc l.length:=by
   rcases a6y j (zc l.length)with k|k
   ·exact k
   ·have e:j=zc l.length:=by omega
    have:=(Rr l.length).1;rw[<-e]at this;omega
  rw[a5H ⟨by unfold LIM;omega,by unfold LEN;omega⟩,B7,A1,A8,Ly];exact⟨zc l.length-(j+1),by omega,j+1,rfl,by omega,rfl⟩
 ·have hc:(((l.length+j)%64:Nat):Int)=56:=by simpa using hc
  have e:j=zc l.length:=by
   rcases a6y j (zc l.length)with k|k
   ·exact absurd (by omega) ((Rr l.length).2 j k)
   ·omega
  subst e;rw[C4];exact h
def by8(n:Int):List UInt8:=(List.range 8).map λi=>UInt8.ofNat (Int.toNat (wu8 (n / 2^(56-8*i))))
theorem vS(n:Int):(by8 n).length=8:=by simp[by8]
theorem Ru(n:Int){i:Nat}(h:i<8):(by8 n).take (i+1)=(by8 n).take i++[UInt8.ofNat (Int.toNat (wu8 (n / 2^(56-8*i))))]:=by
 rw[E4 (by rw[vS];exact h)];congr 2;simp[by8]
theorem VG{d:DG}{z1 z2:Vector UInt8 32}{n:Int}{l:List UInt8}{p:E0×Vector UInt8 32->Prop}(hl:l.length<=140737488355300) (h:Ok (iB d z1 z2 (l++by8 n)) p):Ok (kq n 56 d z1 z2 l) p:=by
 unfold kq;refine L5 (λk v=>∃i:Nat,v=(n,56-8*(i:Int),d,z1,z2,l++(by8 n).take i)/\i<=8/\k=8-i) ?_ (n:=8) ⟨0,by rw[a6E,a5Z];rfl,by omega,rfl⟩ (by omega);rintro k v ⟨i,rfl,hi,rfl⟩;have hlen:(l++(by8 n).take i).length=l.length+i:=by rw[a5K,a5T,vS];omega
 unfold ln;dsimp only;rw[A5];refine⟨λhc=>?_,λhc=>?_⟩
 ·have hc:=a5P hc;have hi8:i<8:=by omega
  have e:min (Int.toNat (56-8*(i:Int))) 64=56-8*i:=by omega
  have ew:B3 (56-8*(i:Int)-8)=56-8*((i+1:Nat):Int):=by rw[D9 (by omega) (by omega)];omega
  rw[a5H hc,B7,a5H (aJ _),B7,hlen,a5H ⟨by unfold LIM;omega,by unfold LEN;omega⟩,B7,A1,A8,e,ew,a50,<-Ru n hi8];exact⟨8-(i+1),by omega,i+1,rfl,by omega,rfl⟩
 ·have hc:=a57 hc;have e:i=8:=by omega
  subst e;rw[C4,a6u (by rw[vS];exact a56 8)];exact h
theorem Zh{z1:Vector UInt8 32}{n:Int}{l:List UInt8}{p:Vector UInt8 32->Prop}(hl:l.length<=140737488355300) (h:Ok (fR z1 (l++by8 n)) p):Ok (ju n 7 z1 l) p:=by
 unfold ju;refine L5 (λk v=>∃i:Nat,v=(n,7-(i:Int),z1,l++(by8 n).take i)/\i<=8/\k=8-i) ?_ (n:=8) ⟨0,by rw[a6E,a5Z];rfl,by omega,rfl⟩ (by omega);rintro k v ⟨i,rfl,hi,rfl⟩;have hlen:(l++(by8 n).take i).length=l.length+i:=by rw[a5K,a5T,vS];omega
 unfold kj;dsimp only;rw[A5];refine⟨λhc=>?_,λhc=>?_⟩
 ·have hc:=a5P hc;have hi8:i<8:=by omega
  have e0:B3 (8*(7-(i:Int)))=56-8*(i:Int):=by rw[D9 (by omega) (by omega)];omega
  have e:min (Int.toNat (56-8*(i:Int))) 64=56-8*i:=by omega
  have ew:B3 (7-(i:Int)-1)=7-((i+1:Nat):Int):=by rw[D9 (by omega) (by omega)];omega
  rw[e0,a5H (by omega),B7,a5H (aJ _),B7,hlen,a5H ⟨by unfold LIM;omega,by unfold LEN;omega⟩,B7,A1,A8,e,ew,a50,<-Ru n hi8];exact⟨8-(i+1),by omega,i+1,rfl,by omega,rfl⟩
 ·have hc:=a57 hc;have e:i=8:=by omega
  subst e;rw[C4,a6u (by rw[vS];exact a56 8)];exact h
theorem VH{z1 z2:Vector UInt8 32}{d:DG}{p:E0×Vector UInt8 32->Prop}(h:H8) (l:List UInt8) (hl:l.length<=140737488355328) (hm:l.length%64=0) (hp:Ok (dL z1 z2 (yC (l.length / 64) h l) d) p):Ok (kp l z1 z2 h d) p:=by
 unfold kp;refine L5 (λk v=>∃(t:List UInt8) (g:H8),v=(t,z1,z2,g,d)/\t.length<=140737488355328/\t.length%64=0/\k=t.length / 64/\yC (t.length / 64) g t=yC (l.length / 64) h l) ?_ (n:=l.length / 64) ⟨l,h,rfl,hl,hm,rfl,rfl⟩ (by omega);rintro k v ⟨t,g,rfl,ht,htm,rfl,e1⟩;unfold lm;dsimp only;rw[A5];refine⟨λhc=>?_,λhc=>?_⟩
 ·have hc:=a5P hc;have h64:(t.take 64).length=64:=by rw[a5T];omega
  obtain⟨q,hq⟩:∃q,t.length / 64=q+1:=⟨t.length / 64-1,by omega⟩;have hd:(t.drop 64).length / 64=q:=by rw[a5Y];omega
  rw[a5H (by omega),B7,Rp g h64,a5I,a5H (by omega),B7,a5J,a52,A1,A8];refine⟨q,by omega,t.drop 64,VD g (t.take 64),rfl,by rw[a5Y];omega,by rw[a5Y];omega,hd.symm,?_⟩;rw[hd,<-e1,hq];rfl
 ·have hc:=a57 hc;have h0:t.length / 64=0:=by omega
  rw[h0]at e1;have e1:g=yC (l.length / 64) h l:=e1;rw[C4,e1];exact hp
theorem Zi{z1:Vector UInt8 32}{p:Vector UInt8 32->Prop}(l:List UInt8) (hl:l.length<=140737488355328) (hm:l.length%64=0) (hp:Ok (cw z1 (yC (l.length / 64) iv l)) p):Ok (jt 0 z1 iv l) p:=by
 unfold jt;refine L5 (λk v=>∃(i:Nat) (g:H8),v=(((64*i:Nat):Int),z1,g,l)/\i<=l.length / 64/\k=l.length / 64-i/\yC (l.length / 64-i) g (l.drop (64*i))=yC (l.length / 64) iv l) ?_ (n:=l.length / 64) ⟨0,iv,rfl,by omega,rfl,rfl⟩ (by omega);rintro k v ⟨i,g,rfl,hi,rfl,e1⟩;unfold ki;dsimp only;rw[A5];refine⟨λhc=>?_,λhc=>?_⟩
 ·have hc:=a5P hc;have hi':i<l.length / 64:=by omega
  have ew:B3 (((64*i:Nat):Int)+64)=((64*(i+1):Nat):Int):=by rw[D9 (by omega) (by omega)];omega
  obtain⟨q,hq⟩:∃q,l.length / 64-i=q+1:=⟨l.length / 64-i-1,by omega⟩;have hb:(l.take (64*(i+1))).drop (64*i)=(l.drop (64*i)).take 64:=by
   rw[a8l];congr 1;omega
  have h64:((l.drop (64*i)).take 64).length=64:=by rw[a5T,a5Y];omega
  rw[ew,a5H (by omega),B7,a5J,a5J,hb,Zf g h64,a5I,A1,A8];refine⟨q,by omega,i+1,_,rfl,by omega,by omega,?_⟩;rw[<-e1,hq,show l.length / 64-(i+1)=q by omega];show _=yC q (VD g ((l.drop (64*i)).take 64)) ((l.drop (64*i)).drop 64);rw[a6A];rfl
 ·have hc:=a57 hc;have h0:l.length / 64-i=0:=by omega
  rw[h0]at e1;have e1:g=yC (l.length / 64) iv l:=e1;rw[C4,e1];exact hp
def fbL(s:H8):List UInt8:=(List.range 32).map λj=>UInt8.ofNat (Int.toNat (wu8 (L0 s (j / 4) (0:Int) / 2^(24-j%4*8))))
theorem AY(s:H8):(fbL s).length=32:=by simp[fbL]
theorem Zj(s:H8){j:Nat}(h:j<32):(fbL s)[j]'(by rw[AY];exact h)=UInt8.ofNat (Int.toNat (wu8 (L0 s (j / 4) (0:Int) / 2^(24-j%4*8)))):=by simp[fbL]
def fb(s:H8):Vector UInt8 32:=⟨(fbL s).toArray,by rw[a6U,AY]⟩
def Rv(s:H8) (j:Nat) (v:Vector UInt8 32):Prop:=v.toList=(fbL s).take j++List.replicate (32-j) (0:UInt8)
theorem Rv.set{s:H8}{j:Nat}{v:Vector UInt8 32}(h:Rv s j v) (hj:j<32){x:UInt8}(hx:x=UInt8.ofNat (Int.toNat (wu8 (L0 s (j / 4) (0:Int) / 2^(24-j%4*8))))):Rv s (j+1) (ws v j x):=by
 unfold Rv at h⊢;rw[Pd,h];have hlen:((fbL s).take j).length=j:=by rw[a5T,AY];omega
 rw[E4 (by rw[AY];exact hj),Zj s hj,<-hx,show 32-j=(32-(j+1))+1 by omega,a7c,a7B _ _ (by omega),hlen,a7J,a7z,a50];rfl
theorem Rv.all{s:H8}{v:Vector UInt8 32}(h:Rv s 32 v):v=fb s:=by
 apply Vector.toList_inj.1;unfold Rv at h;rw[h,a6u (by rw[AY];exact a56 32)];simp[fb]
theorem a2s(s:H8):Rv s 0 (Vector.replicate 32 (0:UInt8)):=by simp[Rv]
theorem VI(s:H8) (z1:Vector UInt8 32) (d:DG):dL z1 (Vector.replicate 32 (0:UInt8)) s d=some (d,fb s):=by
 rw[<-J1];unfold dL oB;refine L5 (λk v=>∃(i:Nat) (o:Vector UInt8 32),v=(s,(i:Int),z1,o,d)/\i<=8/\k=8-i/\Rv s (4*i) o) ?_ (n:=8) ⟨0,_,rfl,by omega,rfl,a2s s⟩ (by omega);rintro k v ⟨i,o,rfl,hi,rfl,hf⟩;unfold ll;dsimp only;rw[A5];refine⟨λhc=>?_,λhc=>?_⟩
 ·have hc:=a5P hc;rw[Xk (i:=i) (by omega),CG (i:=4*i) (c:=1) (by omega) (by omega) (by omega),CG (i:=4*i) (c:=2) (by omega) (by omega) (by omega),CG (i:=4*i) (c:=3) (by omega) (by omega) (by omega)];simp only[D8,A1,A8,a5M,C1 (i:=i) (by omega),a5J];refine⟨by omega,by omega,by omega,aJ _,by omega,by omega,aJ _,by omega,by omega,aJ _,by omega,by omega,aJ _,8-(i+1),by omega,i+1,_,rfl,by omega,rfl,?_⟩;have e0:(4*i) / 4=i:=by omega
  have e1:(4*i+1) / 4=i:=by omega
  have e2:(4*i+2) / 4=i:=by omega
  have e3:(4*i+3) / 4=i:=by omega
  have f0:24-(4*i)%4*8=24:=by omega
  have f1:24-(4*i+1)%4*8=16:=by omega
  have f2:24-(4*i+2)%4*8=8:=by omega
  have f3:24-(4*i+3)%4*8=0:=by omega
  exact(((hf.set (by omega) (by rw[e0,f0])).set (by omega) (by rw[e1,f1])).set (by omega) (by rw[e2,f2])).set (by omega) (by rw[e3,f3,Int.pow_zero,Int.ediv_one])
 ·have hc:=a57 hc;have e:i=8:=by omega
  subst e;rw[A1,B5,hf.all]
theorem Zk(s:H8) (z1:Vector UInt8 32):cw z1 s=some (fb s):=by
 rw[<-J1];unfold cw nC;refine L5 (λk v=>∃(i:Nat) (o:Vector UInt8 32),v=((i:Int),z1,s,o)/\i<=32/\k=32-i/\Rv s i o) ?_ (n:=32) ⟨0,_,rfl,by omega,rfl,a2s s⟩ (by omega);rintro k v ⟨i,o,rfl,hi,rfl,hf⟩;unfold kh;dsimp only;rw[A5];refine⟨λhc=>?_,λhc=>?_⟩
 ·have hc:=a5P hc;have e1:B3 (Int.tdiv (i:Int) 4)=((i / 4:Nat):Int):=by
   rw[show Int.tdiv (i:Int) 4=((i / 4:Nat):Int)from rfl,D9 (by omega) (by omega)]
  have e2:B3 (24-B3 (Int.tmod (i:Int) 4*8))=((24-i%4*8:Nat):Int):=by
   rw[show Int.tmod (i:Int) 4=((i%4:Nat):Int)from rfl,D9 (n:=((i%4:Nat):Int)*8) (by omega) (by omega),D9 (by omega) (by omega)];omega
  rw[e1,e2];have e3:min (24-i%4*8) 32=24-i%4*8:=by omega
  simp only[D8,A1,A8,a5M,C1 (i:=i) (by omega),a5J,e3];exact⟨by omega,by omega,by omega,by omega,by omega,aJ _,32-(i+1),by omega,i+1,_,rfl,by omega,rfl,hf.set (by omega) rfl⟩
 ·have hc:=a57 hc;have e:i=32:=by omega
  subst e;rw[A1,B5,hf.all]
def SF(m:List UInt8):List UInt8:=(m++[(128:UInt8)])++List.replicate (zc (m.length+1)) (0:UInt8)++by8 (D4 (D4 ((m.length:Nat):Int)*8))
def a2t(m:List UInt8):Vector UInt8 32:=fb (yC ((SF m).length / 64) iv (SF m))
theorem Lz(m:List UInt8):(SF m).length=m.length+1+zc (m.length+1)+8/\(SF m).length%64=0:=by
 have h:=(Rr (m.length+1)).1;have e:(SF m).length=m.length+1+zc (m.length+1)+8:=by
  unfold SF;rw[a5K,xU,vS,a5K];rfl
 exact⟨e,by rw[e];omega⟩
theorem Rw{m:List UInt8}(hm:m.length<=140737488355000):H1 m=some (a2t m):=by
 rw[<-J1];have hz:=VF (m.length+1);have h1:(m++[(128:UInt8)]).length=m.length+1:=by rw[a5K];rfl
 obtain⟨p1,p2⟩:=Lz m;unfold H1;rw[a5H ⟨by unfold LIM;omega,by unfold LEN;omega⟩,B7,a5H ⟨by unfold LIM;omega,by unfold LEN;omega⟩,B7];refine Rs (by rw[h1];omega) ?_;rw[h1];unfold fS;refine Zh (by rw[xU,h1];omega) ?_;unfold fR;refine Zi (SF m) (by omega) p2 ?_;rw[Zk,A1];rfl
theorem Zl{d:DG}{m:List UInt8}(h:Dig d m) (_hm:m.length<=140737488355000):kX d=some (d,a2t m):=by
 rw[<-J1];obtain⟨q,hq⟩:∃q,q=m.length / 64:=⟨_,rfl⟩;unfold Dig at h;rw[<-hq]at h;have hr:(m.drop (64*q)).length=m.length-64*q:=a5Y;have hx:(m.take (64*q)).length=64*q:=by rw[a5T];omega
 obtain⟨g,rest,n⟩:=d;injection h with h1 h2;injection h2 with h2 h3;obtain⟨rfl,rfl,rfl⟩:g=yC q iv m/\rest=m.drop (64*q)/\n=((m.length:Nat):Int):=⟨h1,h2,h3⟩;have hl:(m.drop (64*q)++[(128:UInt8)]).length=m.length-64*q+1:=by rw[a5K,hr];rfl
 have hzz:zc (m.length-64*q+1)=zc (m.length+1):=a2r (by omega);have hz:=VF (m.length+1);obtain⟨p1,p2⟩:=Lz m;have hpad:SF m=m.take (64*q)++((m.drop (64*q)++[(128:UInt8)])++List.replicate (zc (m.length+1)) (0:UInt8)++by8 (D4 (D4 ((m.length:Nat):Int)*8))):=by
  unfold SF;simp only[<-a50,a6d]
 have htl:((m.drop (64*q)++[(128:UInt8)])++List.replicate (zc (m.length+1)) (0:UInt8)++by8 (D4 (D4 ((m.length:Nat):Int)*8))).length=m.length-64*q+1+zc (m.length+1)+8:=by
  rw[a5K,xU,vS,hl]
 unfold kX;dsimp only;rw[hr,a5H ⟨by unfold LIM;omega,by unfold LEN;omega⟩,B7,a5H ⟨by unfold LIM;omega,by unfold LEN;omega⟩,B7];refine Nt (by rw[hl];omega) ?_;rw[hl,hzz];unfold iC;refine VG (by rw[xU,hl];omega) ?_;unfold iB;refine VH _ _ (by rw[htl];omega) (by rw[htl];omega) ?_;rw[VI,A1];refine Prod.ext rfl ?_;dsimp only;unfold a2t;have hbq:yC q iv (m.take (64*q))=yC q iv m:=by
  have h1:=xb 0 (m.drop (64*q)) q iv (m.take (64*q)) hx;rw[a6d]at h1;exact h1.symm
 have hn:(SF m).length / 64=q+((m.drop (64*q)++[(128:UInt8)])++List.replicate (zc (m.length+1)) (0:UInt8)++by8 (D4 (D4 ((m.length:Nat):Int)*8))).length / 64:=by rw[htl,p1];omega
 rw[hn];congr 1
 conv=>rhs;rw[hpad]
 rw[xb _ _ q iv _ hx,hbq]
abbrev Ans{α:Type}(o:Option α):Prop:=Ok o λ_=>True
theorem I5{α β:Type}{o:Option α}{f:α->Option β}{p:β->Prop}(h:Ans o) (k:∀r,Ok (f r) p):Ok (o.bind f) p:=by
 rw[A4];exact h.mono λr _=>k r
theorem VJ{m:List UInt8}(hm:m.length<=140737488354000):wI m=some (a2t m):=by
 obtain⟨d0,h0,g0⟩:=Zg;obtain⟨d1,h1,g1⟩:=Rq (b:=m) g0 (by simp only[a6v];omega);rw[a6w]at g1;unfold wI;rw[h0,a5I,h1,a5I,Zl g1 (by omega)];rfl
theorem qf{l:List UInt8}(hb:l.length<140737488350000):Ans (H1 l):=⟨_,Rw (by omega),trivial⟩
theorem VK(op:BinOp) (a b:Int):0<=bits op .u8 a b/\bits op .u8 a b<256:=by
 unfold bits;rw[IntKind.wrap_u8];omega
theorem AZ{a:List UInt8}{n:Int}(h0:0<=n) (h1:n<18446744073709551616) (hl:a.length<=140737488355300):Ok (H9 a n) λr=>r.length<=a.length+10:=by
 unfold H9;rw[a5H ⟨by unfold LIM;omega,by unfold LEN;omega⟩,B7];unfold bB;refine L5 (λk v=>∃(i m:Nat) (l:List UInt8),v=((m:Int),l)/\i<=9/\k=10-i/\l.length=a.length+i/\m<2^(64-7*i)) ?_ (n:=10) ⟨0,n.toNat,a,by rw[a6R h0],by omega,rfl,rfl,by omega⟩ (by omega);rintro k v ⟨i,m,l,rfl,hi,rfl,hll,hm⟩;unfold Y9;dsimp only;rw[A5];refine⟨λhc=>?_,λhc=>?_⟩
 ·have hc:=a5P hc;have hi8:i<=8:=by
   rcases a6y 8 i with h|h
   ·have e:i=9:=by omega
    subst e;simp only[Nat.reduceMul,Nat.reduceSub,Nat.reducePow]at hm;omega
   ·exact h
  have hdiv:m / 2^7<2^(64-7*(i+1)):=by
   refine Nat.div_lt_of_lt_mul ?_;rw[<-a7S,show 7+(64-7*(i+1))=64-7*i by omega];exact hm
  rw[a5H (VK _ _ _),B7,a5H ⟨by unfold LIM;omega,by unfold LEN;omega⟩,B7,A1,A8,Ej];exact⟨10-(i+1),by omega,i+1,m / 2^7,_,rfl,by omega,rfl,by rw[a5K,a51];omega,hdiv⟩
 ·rw[C4];unfold Y8;rw[a5H (aJ _),B7,a5H ⟨by unfold LIM;omega,by unfold LEN;omega⟩,B7,A1,B5,a5K,a51];omega
def ZO(f:A3):Prop:=(1<=f.1/\f.1<=100)/\(f.2.1=0\/f.2.1=2)/\(0<=f.2.2.1/\f.2.2.1<18446744073709551616)
theorem VL(f:A3):Ok (W7 f) λ_=>True:=by
 unfold W7;simp only[A5,A1];refine⟨λ_=>trivial,λ_=>⟨λ_=>trivial,λ_=>⟨λ_=>⟨λ_=>trivial,λ_=>⟨λ_=>trivial,λ_=>trivial⟩⟩,λ_=>⟨λ_=>trivial,λ_=>trivial⟩⟩⟩⟩
theorem Rx{a:List UInt8}{f:A3}(h:ZO f) (hl:a.length+f.2.2.2.length<=140737488355100):Ok (aL a f) λr=>r.1.length<=a.length+f.2.2.2.length+20:=by
 unfold aL;rw[A4];refine(VL f).mono λr1 _=>?_;rw[A5];refine⟨λ_=>?_,λ_=>?_⟩
 ·rw[A1];exact a6p _
 rw[A4];have hw:=Y2 (D4 (D4 f.1*8)+D4 f.2.1);refine(AZ hw.1 hw.2 (by omega)).mono λr2 h2=>?_;rw[A5];refine⟨λ_=>?_,λ_=>?_⟩
 ·rw[A4];refine(AZ h.2.2.1 h.2.2.2 (by omega)).mono λr3 h3=>?_;rw[A1];dsimp only;omega
 ·rw[A4];have hw:=Y2 (((List.length f.2.2.2):Nat):Int);refine(AZ hw.1 hw.2 (by omega)).mono λr3 h3=>?_;rw[a5H ⟨by unfold LIM;omega,by unfold LEN;omega⟩,B7,A1];dsimp only;rw[a5K];omega
def wtF(l:List A3):Nat:=(l.map λf=>f.2.2.2.length+20).sum
theorem VM{l:List A3}{i:Nat}(h:i<l.length):wtF (l.take (i+1))=wtF (l.take i)+(l[i].2.2.2.length+20):=by
 unfold wtF;rw[E4 h,a53,a7n];simp
theorem a2u(l:List A3) (i:Nat):wtF (l.take i)<=wtF l:=by
 have:wtF l=wtF (l.take i)+wtF (l.drop i):=by
  unfold wtF;rw[<-a7n,<-a53,a6d]
 omega
theorem GM{l:List A3}(h:∀f∈l,ZO f) (hl:l.length<=100000) (hw:wtF l<=140737488355000):Ok (E5 l) λr=>r.length<=wtF l:=by
 unfold E5 fH;refine C8 l (λi (b:List UInt8)=>(l,((l.length:Nat):Int),((i:Nat):Int),b)) (λi b=>b.length<=wtF (l.take i)) (λi b hi hv=>?_) (λb hv=>?_) (b0:=[]) (a6p _) (by omega)
 ·have h1:=VM hi;have h2:=a2u l (i+1);unfold Q3;dsimp only;rw[a5H (by omega:(i:Int)<((l.length:Nat):Int)),D1,a5H (by omega:(0:Int)<=(i:Int)/\(i:Int)<((l.length:Nat):Int)),B7,a5J,C9 hi,A4];refine(Rx (h _ (a5V hi)) (by omega)).mono λr hr=>?_;rw[A1,A8,C1 (by omega)];exact⟨_,rfl,by omega⟩
 ·rw[a52]at hv;unfold Q3;dsimp only;rw[a5N (by omega),D3,A1,B5];exact hv
theorem VN{n:Nat}(h1:2<=n) (h2:n<=1000000000000000):∃t,fj (n:Int)=some ((2^t:Nat):Int)/\2^t<n/\n<=2*2^t:=by
 have:Ok (fj (n:Int)) λr=>∃t:Nat,r=((2^t:Nat):Int)/\2^t<n/\n<=2*2^t:=by
  unfold fj mK;refine L5 (λk v=>∃t:Nat,v=((n:Int),((2^t:Nat):Int))/\2^t<n/\k=n-2^t) ?_ (n:=n-1) ⟨0,rfl,by omega,rfl⟩ (by omega);rintro k v ⟨t,rfl,ht,rfl⟩;have hp:0<2^t:=Nat.pow_pos (by omega);unfold jB;dsimp only;rw[D9 (n:=(n:Int)-((2^t:Nat):Int)) (by omega) (by omega),D9 (n:=((2^t:Nat):Int)*2) (by omega) (by omega),A5];refine⟨λhc=>?_,λhc=>?_⟩
  ·have hc:=a5P hc;rw[A1,A8];have hs:2^(t+1)=2^t*2:=a7r ..;exact⟨n-2^(t+1),by omega,t+1,by rw[hs];rfl,by omega,rfl⟩
  ·have hc:=a57 hc;rw[A1,B5];exact⟨t,rfl,ht,by omega⟩
 obtain⟨r,e,t,rfl,h⟩:=this;exact⟨t,e,h⟩
theorem VO{l:List UInt8}(hb:l.length<=140737488340000):Ans (jg l):=by
 unfold jg;rw[a5H ⟨by unfold LIM;omega,by unfold LEN;omega⟩,B7];exact I5 (qf (by rw[a5K,a51];omega)) λr=>⟨_,rfl,trivial⟩
theorem Ry(a b:Vector UInt8 32):Ans (ip a b):=by
 have h1:(Vector.toList a).length=32:=a6F;have h2:(Vector.toList b).length=32:=a6F;unfold ip;rw[a5K,a51,h1,h2,a5H ⟨by unfold LIM;omega,by unfold LEN;omega⟩,B7,a5H ⟨by unfold LIM;omega,by unfold LEN;omega⟩,B7];exact I5 (qf (by simp only[a5K,a51];omega)) λr=>⟨_,rfl,trivial⟩
theorem Ex:∀(f:Nat) (l:List (List UInt8)),l.length<f->l.length<=1000000000000000->(∀b∈l,b.length<=140737488340000)->Ans (U4 f l)
 |0,l,h,_,_=>by omega
 |f+1,l,h,hl,hb=>by
  show Ans (iq (U4 f) l);unfold iq;by_cases h0:l.length=0
  ·rw[a5H (by omega),D1];exact I5 (qf (by simp)) λr=>⟨_,rfl,trivial⟩
  rw[a5N (by omega),D3];by_cases h1:l.length=1
  ·have hb0:(l.getD 0 []).length<=140737488340000:=by rw[C9 (by omega)];exact hb _ (a5V _)
   rw[a5H (by omega),D1,a5H (by omega),B7];exact I5 (VO hb0) λr=>⟨_,rfl,trivial⟩
  rw[a5N (by omega),D3];obtain⟨t,e2,k2,k3⟩:=VN (n:=l.length) (by omega) hl;have k1:0<2^t:=Nat.pow_pos (by omega);have lt:(l.take (2^t)).length=2^t:=by rw[a5T];omega
  have ld:(l.drop (2^t)).length=l.length-2^t:=a5Y;rw[e2,a5I,a5H (by omega),B7,a5J,a5J,a52];refine I5 (Ex f _ (by omega) (by omega) (λb hx=>hb b (a6V hx))) λr4=>?_;rw[a5H (by omega),B7];refine I5 (Ex f _ (by omega) (by omega) (λb hx=>hb b (a7E hx))) λr5=>?_;exact I5 (Ry _ _) λr=>⟨_,rfl,trivial⟩
theorem xd{l:List (List UInt8)}(hl:l.length<=1000000000) (hb:∀b∈l,b.length<=140737488340000):Ans (U4 PW l):=
 Ex PW l (by rw[DQ];omega) (by omega) hb
theorem LA{g:o8}(hg:Jj 256 g):Ans (S3 g):=by
 have hl:=hg.1;unfold S3 gB;refine C8 g.1 (λi (v:List (List UInt8))=>(g.1,((g.1.length:Nat):Int),((i:Nat):Int),g,Vector.replicate 32 (0:UInt8),v)) (λi v=>v.length=i/\∀x∈v,x.length<=1000000000) (λi v hi hv=>?_) (λv hv=>?_) (b0:=[]) ⟨rfl,λx hx=>by cases hx⟩ (by omega)
 ·obtain⟨h1,h2,h3⟩:=hg.2.1 _ (a5V hi);have hn:=h1.2;unfold U5;dsimp only;rw[a5H (by omega:(i:Int)<((g.1.length:Nat):Int)),D1,a5H (by omega:(0:Int)<=(i:Int)/\(i:Int)<((g.1.length:Nat):Int)),B7,a5J,C9 hi,a5H (by simp only[maxLen];omega),B7,A4];have hw:wtF [(1,2,(0:Int),g.1[i].1),(2,(0:Int),g.1[i].2.1,[]),(3,(0:Int),g.1[i].2.2,[])]=g.1[i].1.length+60:=by simp[wtF]
  refine(GM (λf hf=>?_) (by simp) (by omega)).mono λr hr=>?_
  ·simp only[a7l,a73,or_false]at hf;rcases hf with rfl|rfl|rfl
   ·exact⟨⟨by dsimp only;omega,by dsimp only;omega⟩,.inr rfl,by dsimp only;omega,by dsimp only;omega⟩
   ·exact⟨⟨by dsimp only;omega,by dsimp only;omega⟩,.inl rfl,h2⟩
   ·exact⟨⟨by dsimp only;omega,by dsimp only;omega⟩,.inl rfl,h3⟩
  rw[a5H ⟨by unfold LIM;omega,by unfold LEN;omega⟩,B7,A1,A8,C1 (by omega)];refine⟨_,rfl,by rw[a5K,a51,hv.1],λx hx=>?_⟩;rcases List.mem_append.1 hx with hx|hx
  ·exact hv.2 x hx
  ·rw[List.mem_singleton.1 hx];omega
 ·unfold U5 bf;dsimp only;rw[a5N (by omega),D3,C4,A4];have hw:wtF [(4,(0:Int),g.2,[])]=20:=by simp[wtF]
  refine(GM (λf hf=>?_) (by simp) (by omega)).mono λr hr=>?_
  ·rw[a6b]at hf;subst hf;exact⟨⟨by dsimp only;omega,by dsimp only;omega⟩,.inl rfl,hg.2.2⟩
  rw[a5H ⟨by unfold LIM;omega,by unfold LEN;omega⟩,B7];refine I5 (xd (by rw[a5K,a51];omega) λx hx=>?_) λr=>⟨_,rfl,trivial⟩;rcases List.mem_append.1 hx with hx|hx
  ·have:=hv.2 x hx;omega
  ·rw[List.mem_singleton.1 hx];omega
theorem RA{l:List B1}(h:∀r∈l,okU r.2.2.2.1) (hl:l.length<=1000000):Ans (bg l):=by
 unfold bg kD;refine C8 l (λi (v:List (List UInt8))=>(l,((l.length:Nat):Int),((i:Nat):Int),Vector.replicate 32 (0:UInt8),v)) (λi v=>v.length=i/\∀x∈v,x.length<=1000000000) (λi v hi hv=>?_) (λv hv=>?_) (b0:=[]) ⟨rfl,λx hx=>by cases hx⟩ (by omega)
 ·have h1:=h _ (a5V hi);unfold bF;dsimp only;rw[a5H (by omega:(i:Int)<((l.length:Nat):Int)),D1,a5H (by omega:(0:Int)<=(i:Int)/\(i:Int)<((l.length:Nat):Int)),B7,a5J,C9 hi,A4];have hw:wtF [(1,(0:Int),D4 l[i].1,[]),(2,(0:Int),l[i].2.2.2.1,[])]=40:=by simp[wtF]
  refine(GM (λf hf=>?_) (by simp) (by omega)).mono λr hr=>?_
  ·simp only[a7l,a73,or_false]at hf;rcases hf with rfl|rfl
   ·exact⟨⟨by dsimp only;omega,by dsimp only;omega⟩,.inl rfl,Y2 _⟩
   ·exact⟨⟨by dsimp only;omega,by dsimp only;omega⟩,.inl rfl,h1⟩
  rw[a5H ⟨by unfold LIM;omega,by unfold LEN;omega⟩,B7,A1,A8,C1 (by omega)];refine⟨_,rfl,by rw[a5K,a51,hv.1],λx hx=>?_⟩;rcases List.mem_append.1 hx with hx|hx
  ·exact hv.2 x hx
  ·rw[List.mem_singleton.1 hx];omega
 ·unfold bF;dsimp only;rw[a5N (by omega),D3,C4];exact I5 (xd (by omega) λx hx=>by have:=hv.2 x hx;omega) λr=>⟨_,rfl,trivial⟩
theorem Jl{g:o8}(hg:Jj 256 g):Ok (ei g) λt=>t.1=0/\t.2.1=0:=by
 unfold ei;refine I5 (LA hg) λk=>I5 (qf (by rw[a6F];omega)) λk2=>I5 (RA (λr hr=>by cases hr) (by simp)) λk3=>⟨_,rfl,rfl,rfl⟩
def vsz(n:Nat):Nat:=if n<128 then 1 else vsz (n / 128)+1
termination_by n
decreasing_by omega
theorem RB{n:Nat}(h:n<128):vsz n=1:=by rw[vsz,a5W h]
theorem RC{n:Nat}(h:¬n<128):vsz n=vsz (n / 128)+1:=by rw[vsz,a5U h]
theorem a2v:∀(k n:Nat),n<128^k->1<=k->vsz n<=k:=by
 intro k
 induction k with
 |zero=>intro n _ h;omega
 |succ k ih=>
  intro n h _;by_cases h1:n<128
  ·rw[RB h1];omega
  ·rw[RC h1];have hk:1<=k:=by
    cases k with
    |zero=>simp at h;omega
    |succ k=>omega
   have:=ih (n / 128) (by rw[a7r]at h;omega) hk;omega
theorem RD(n:Nat):1<=vsz n:=by rw[vsz];split <;> omega
theorem GN{n:Nat}(h:n<18446744073709551616):vsz n<=10:=a2v 10 n (by have:(128:Nat)^10=1180591620717411303424:=rfl;omega) (by omega)
theorem Zm{n:Nat}(h:n<18446744073709551616):rG (n:Int)=some (vsz n:Int):=by
 unfold rG qO;refine J1.1 (L5 (λk v=>∃m j:Nat,m=k/\m<18446744073709551616/\j+vsz m=vsz n+1/\v=((m:Int),(j:Int))) ?_ ⟨n,1,rfl,h,by omega,rfl⟩ (by omega));rintro k v ⟨m,j,rfl,hm,hj,rfl⟩;have h10:=GN h;have hp:=RD m;dsimp only;have w:B3 ((j:Int)+1)=((j+1:Nat):Int):=C1 (by omega);have e:(m:Int) / 2^7=((m / 128:Nat):Int):=by omega
 simp only[sm,w,e,A5,A1,A8,B5,a5M,a5L];refine⟨λh1=>⟨m / 128,by omega,m / 128,j+1,rfl,by omega,?_,rfl⟩,λh1=>?_⟩
 ·rw[RC (by omega)]at hj;omega
 ·rw[RB (by omega)]at hj;omega
theorem Nu{n:Nat}(h:n<18446744073709551616):Ok (H9 [] (n:Int)) λr=>r.length=vsz n:=by
 unfold H9;rw[D8];refine⟨by rfl,?_⟩;unfold bB;refine L5 (λk v=>∃(m:Nat) (l:List UInt8),m=k/\m<18446744073709551616/\l.length+vsz m=vsz n/\v=((m:Int),l)) ?_ ⟨n,[],rfl,h,by simp,rfl⟩ (by omega);rintro k v ⟨m,l,rfl,hm,hj,rfl⟩;have h10:=GN h;have hp:=RD m;dsimp only;have e:(m:Int) / 2^7=((m / 128:Nat):Int):=by omega
 have hb:=IntKind.wrap_u8 (BitVec.toNat (BitVec.ofInt IntKind.u8.bits (wu8 (m:Int)) ||| BitVec.ofInt IntKind.u8.bits 128):Int);have hb2:0<=bits .or .u8 (wu8 (m:Int)) 128/\bits .or .u8 (wu8 (m:Int)) 128<256:=by
  unfold bits;rw[IntKind.wrap_u8];omega
 have hu:=aJ (m:Int);simp only[Y9,Y8,e,A5,D8,A1,C4,A8,B5,a5M,a5L];refine⟨λh1=>⟨hb2,⟨by unfold LIM;omega,by unfold LEN;omega⟩,m / 128,by omega,m / 128,_,rfl,by omega,?_,rfl⟩,λh1=>⟨hu,⟨by unfold LIM;omega,by unfold LEN;omega⟩,?_⟩⟩
 ·rw[RC (by omega)]at hj;simp;omega
 ·rw[RB (by omega)]at hj;simp;omega
def fsz(n:Nat):Nat:=1+vsz n+n
theorem LB{n:Nat}(h:n<18446744073709551616):fsz n<=n+11:=by have:=GN h;unfold fsz;omega
theorem GO{n:Nat}(h:n<4611686018427387904):ol (n:Int)=some (fsz n:Int):=by
 have h1:=GN (n:=n) (by omega);have w1:D4 (n:Int)=(n:Int):=Q0 (by omega) (by omega);have w2:B3 (1+(vsz n:Int))=1+(vsz n:Int):=D9 (by omega) (by omega);have w3:B3 (1+(vsz n:Int)+(n:Int))=1+(vsz n:Int)+(n:Int):=D9 (by omega) (by omega);refine J1.1 ?_;simp only[ol,w1,Zm (n:=n) (by omega),w2,w3,A5,A4,A1,a5M,a5L];refine⟨λh=>by omega,λ_=>?_⟩;unfold fsz;omega
theorem pC{n:Nat}(h:n<4611686018427387904):S6 (n:Int)=some (fsz n:Int):=by
 have h1:=GN (n:=n) (by omega);have w1:D4 (n:Int)=(n:Int):=Q0 (by omega) (by omega);have w2:B3 (1+(vsz n:Int))=1+(vsz n:Int):=D9 (by omega) (by omega);have w3:B3 (1+(vsz n:Int)+(n:Int))=1+(vsz n:Int)+(n:Int):=D9 (by omega) (by omega);obtain⟨r,hr,hl⟩:=Nu (n:=n) (by omega);refine J1.1 ?_;simp only[S6,gr,w1,hr,hl,w2,w3,A5,A4,A1,a5M,a5L];refine⟨λh=>by omega,λ_=>?_⟩;unfold fsz;omega
variable {md:Int}
abbrev StD:=A2
noncomputable def xV(l:List UInt8):KD:=(H1 l).getD (Vector.replicate 32 (0:UInt8))
theorem GP{l:List UInt8}(h:l.length<140737488350000):H1 l=some (xV l):=by
 obtain⟨r,e,_⟩:=qf h;unfold xV;rw[e];rfl
def SG(n:Nat) (e:ED):Prop:=e.1=xV e.2.1/\e.2.1.length<=10000/\e.2.2.2.2.1=(iM e.2.1).1.2.2.1/\e.2.2.2.2.2.2.2.2.2.length<=n
def yP(n:Nat) (l:List ED):Prop:=l.length<=n/\(∀e∈l,SG n e)/\(l.map λe=>e.1).Nodup
def CfV(md:Int) (c:C6):Prop:=c.2.2.2.2.2.2.2.2.2.2.2=md/\c.2.2.2.2.2.2.2.1<=9223372036854775807/\c.2.2.2.2.2.2.2.2.1<=9223372036854775807/\0<=c.2.2.2.2.1/\0<=c.2.2.2.2.2.1/\ -1<=c.2.2.2.2.2.2.2.2.1
def CaV(c:C6) (l:List KD):Prop:=l.length<=1025/\l.Nodup/\((l.length:Nat):Int)<=max 0 (min c.2.2.2.1 1024)
def GQ(a:Int) (l:List KD) (k:KD):List KD:=if k∈l then l.erase k++[k]else if max 0 (min a 1024)<((l.length+1:Nat):Int) then(l++[k]).drop 1 else l++[k]
theorem CaV.drop{c:C6}{l:List KD}(h:CaV c l) (k:KD):CaV c (l.erase k):=by
 have h1:=(List.erase_sublist (a:=k) (l:=l)).length_le;obtain⟨a,b,d⟩:=h;exact⟨by omega,b.erase k,by omega⟩
theorem CaV.nil(c:C6):CaV c []:=⟨by simp,a6T,by simp;omega⟩
theorem CaV.push{c:C6}{l:List KD}(h:CaV c l) (k:KD):CaV c (GQ c.2.2.2.1 l k):=by
 obtain⟨a,b,d⟩:=h;unfold GQ;split
 ·rename_i hm;have h1:=List.length_erase_of_mem hm;have h2:0<l.length:=List.length_pos_of_mem hm;have h3:(l.erase k++[k]).length=l.length:=by rw[a5K,a51];omega
  refine⟨by omega,?_,by omega⟩;rw[a6K];refine⟨b.erase k,by simp,λx hx y hy=>?_⟩;rw[List.mem_singleton.1 hy];exact λe=>(List.Nodup.mem_erase_iff b).1 (e▸hx) |>.1 rfl
 ·rename_i hm;have h3:(l++[k]).length=l.length+1:=by rw[a5K,a51]
  have hn:(l++[k]).Nodup:=by
   rw[a6K];refine⟨b,by simp,λx hx y hy=>?_⟩;rw[List.mem_singleton.1 hy];exact λe=>hm (e▸hx)
  split
  ·have h4:((l++[k]).drop 1).length=l.length:=by rw[a5Y,h3];omega
   exact⟨by omega,(List.drop_sublist 1 _).nodup hn,by omega⟩
  ·exact⟨by omega,hn,by omega⟩
def StV(md:Int) (n:Nat) (s:StD):Prop:=CfV md s.1/\Jk s.2.1/\yP n s.2.2.2.2.2.1/\CaV s.1 s.2.2.2.2.2.2
theorem SG.mono{n m:Nat}{e:ED}(h:SG n e) (k:n<=m):SG m e:=⟨h.1,h.2.1,h.2.2.1,a6c h.2.2.2 k⟩
theorem yP.mono{n m:Nat}{l:List ED}(h:yP n l) (k:n<=m):yP m l:=⟨a6c h.1 k,λe he=>(h.2.1 e he).mono k,h.2.2⟩
theorem StV.mono{n m:Nat}{s:StD}(h:StV md n s) (k:n<=m):StV md m s:=⟨h.1,h.2.1,h.2.2.1.mono k,h.2.2.2⟩
theorem yP.sub{n:Nat}{l m:List ED}(h:yP n l) (k:m.Sublist l):yP n m:=
 ⟨a6c k.length_le h.1,λe he=>h.2.1 e (k.subset he),(k.map _).nodup h.2.2⟩
def pD(s:StD) (c:List KD):StD:=(s.1,s.2.1,s.2.2.1,s.2.2.2.1,s.2.2.2.2.1,s.2.2.2.2.2.1,c)
def tJ(s:StD) (l:List ED):StD:=(s.1,s.2.1,s.2.2.1,s.2.2.2.1,s.2.2.2.2.1,l,s.2.2.2.2.2.2)
theorem StV.c{n:Nat}{s:StD}(h:StV md n s){c:List KD}(hc:CaV s.1 c):StV md n (pD s c):=⟨h.1,h.2.1,h.2.2.1,hc⟩
theorem StV.e{n:Nat}{s:StD}(h:StV md n s){l:List ED}(hl:yP n l):StV md n (tJ s l):=⟨h.1,h.2.1,hl,h.2.2.2⟩
theorem nZ{n:Nat}(h:n<=1000000000):n*32<=LIM/\n<=LEN:=by unfold LIM LEN;omega
theorem Ey{l:List KD}(hl:l.length<=1000000) (k:KD):Ok (aM l k) λr=>(r= -1/\k∉l)\/∃i:Nat,r=(i:Int)/\i<l.length/\l.erase k=l.take i++l.drop (i+1)/\k∈l:=by
 unfold aM ma;refine C8 l (λi (_:Unit)=>(l,((l.length:Nat):Int),((i:Nat):Int),k)) (λi _=>k∉l.take i) (λi _ hi hv=>?_) (λ_ hv=>?_) (b0:=()) (by simp) (by omega)
 ·have e0:(l.getD i (Vector.replicate 32 (0:UInt8)):KD)=l[i]:=C9 hi _;unfold dX;dsimp only;rw[a5H (by omega:(i:Int)<((l.length:Nat):Int)),D1,a5H (by omega:(0:Int)<=(i:Int)/\(i:Int)<((l.length:Nat):Int)),B7,a5J,A5];refine⟨λe=>?_,λe=>?_⟩
  ·have e:l[i]=k:=e0.symm.trans ((U.beq_iff (.arr 32 .byte) _ rfl _ k).1 e);rw[A1,B5];refine .inr ⟨i,rfl,hi,?_,e▸a5V hi⟩;have el:l=l.take i++(k::l.drop (i+1)):=by rw[<-e,<-a6n hi,a6d]
   have:(l.take i++(k::l.drop (i+1))).erase k=l.take i++l.drop (i+1):=by rw[List.erase_append_right _ hv,List.erase_cons_head]
   rwa [<-el]at this
  ·have e:l[i]≠k:=λhk=>absurd (e.symm.trans ((U.beq_iff (.arr 32 .byte) _ rfl _ k).2 (e0.trans hk))) (by decide);rw[A1,A8,C1 (by omega)];refine⟨(),rfl,?_⟩;rw[E4 hi,a6Z,a6b];exact λhx=>hx.elim hv (λhx=>e hx.symm)
 ·unfold dX;dsimp only;rw[a52]at hv;rw[a5N (by omega),D3,A1,B5];exact .inl ⟨rfl,hv⟩
theorem RE{l:List KD}(hl:l.length<=1000000) (k:KD):Ans (O1 l k):=by
 unfold O1;exact I5 ((Ey hl k).mono λ_ _=>trivial) λr=>⟨_,rfl,trivial⟩
theorem VP{l:List KD}(hl:l.length<=1025) (a:Int) (k:KD):Ok (jd l a k) λr=>r.1=GQ a l k:=by
 unfold jd;rw[A4];refine(Ey (by omega) k).mono λr hr=>?_;unfold GQ;rcases hr with⟨rfl,hk⟩|⟨i,rfl,hi,he,hk⟩
 ·rw[a5N (by omega),D3,a5H (by rw[a6j];exact nZ (by omega)),B7,a5H (nZ (by omega)),B7,a5U hk];have h3:(l++[k]).length=l.length+1:=by rw[a5K,a51]
  rw[h3,A5];refine⟨λh=>?_,λh=>?_⟩
  ·rw[a5H (by omega),B7,a5W (a5P h)];refine⟨_,rfl,?_⟩;show List.drop 1 (List.take (Int.toNat (((l.length+1:Nat):Nat):Int)) (l++[k]))=_;rw[a5J,a6u (by omega)]
  ·rw[a5U (a57 h)];exact⟨_,rfl,rfl⟩
 ·have e1:B3 ((i:Int)+1)=((i+1:Nat):Int):=by rw[D9 (by omega) (by omega)];omega
  have h1:(l.take i).length=i:=by rw[a5T];omega
  have h2:(l.drop (i+1)).length=l.length-(i+1):=a5Y;rw[a5H (by omega),D1,a5H (by omega),B7,e1];have h4:(l.take i++l.drop (i+1)).length=l.length-1:=by rw[a5K,h1,h2];omega
  simp only[a5J,a52,h1,h2,h4];rw[a5H (by rw[a6j];exact nZ (by omega)),B7,a5H (by omega),B7,a5H (nZ (by omega)),B7,a5H (nZ (by omega)),B7,a5W hk,he];exact⟨_,rfl,rfl⟩
theorem VQ{l:List KD}(hl:l.length<=1025) (k:KD):Ok (je l k) λr=>r.1=l.erase k:=by
 unfold je;rw[A4];refine(Ey (by omega) k).mono λr hr=>?_;rcases hr with⟨rfl,hk⟩|⟨i,rfl,hi,he,hk⟩
 ·rw[a5H (by omega),D1,List.erase_of_not_mem hk];exact⟨_,rfl,rfl⟩
 ·have e1:B3 ((i:Int)+1)=((i+1:Nat):Int):=by rw[D9 (by omega) (by omega)];omega
  have h1:(l.take i).length=i:=by rw[a5T];omega
  have h2:(l.drop (i+1)).length=l.length-(i+1):=a5Y;rw[a5N (by omega),D3,a5H (by omega),B7,e1];simp only[a5J,a52,h1,h2];rw[a5H (by rw[a6j];exact nZ (by omega)),B7,a5H (by omega),B7,a5H (nZ (by omega)),B7,he];exact⟨_,rfl,rfl⟩
theorem RF{n:Nat}{s:StD}(h:StV md n s) (k:KD):W8 s k=some (pD s (GQ s.1.2.2.2.1 s.2.2.2.2.2.2 k)):=by
 refine J1.1 ?_;unfold W8;rw[A4];refine(VP h.2.2.2.1 _ k).mono λr hr=>⟨_,rfl,?_⟩;dsimp only;rw[hr];rfl
theorem Jm{n:Nat}{s:StD}(h:StV md n s) (k:KD):S1 s k=some (pD s (s.2.2.2.2.2.2.erase k)):=by
 refine J1.1 ?_;unfold S1;rw[A4];refine(VQ h.2.2.2.1 k).mono λr hr=>⟨_,rfl,?_⟩;dsimp only;rw[hr];rfl
def qz(s:StD) (k:KD):StD:=if s.1.2.2.2.2.2.2.1=true then s else pD s (s.2.2.2.2.2.2.erase k)
theorem Ba{n:Nat}{s:StD}(h:StV md n s) (k:KD):K7 s k=some (qz s k):=by
 unfold K7 qz;cases e:s.1.2.2.2.2.2.2.1 with
 |true=>rw[D1,a5W rfl]
 |false=>rw[D3,Jm h,a5I,a5U (by decide)]
theorem RG{n:Nat}{s:StD}(h:StV md n s) (k:KD):Ok (W8 s k) λr=>∃c:List KD,CaV s.1 c/\r=pD s c:=⟨_,RF h k,_,h.2.2.2.push k,rfl⟩
theorem RH{n:Nat}{s:StD}(h:StV md n s) (k:KD):Ok (S1 s k) λr=>∃c:List KD,CaV s.1 c/\r=pD s c:=⟨_,Jm h k,_,h.2.2.2.drop k,rfl⟩
theorem Ez{n:Nat}{s:StD}(h:StV md n s) (k:KD):Ok (K7 s k) λr=>∃c:List KD,CaV s.1 c/\r=pD s c:=by
 refine⟨_,Ba h k,?_⟩;unfold qz;split
 ·exact⟨s.2.2.2.2.2.2,h.2.2.2,rfl⟩
 ·exact⟨_,h.2.2.2.drop k,rfl⟩
theorem EA{n:Nat}{s:StD}(h:StV md n s) (hn:n<=1000) (k:KD):Ok (L9 s k) λr=>∃l:List ED,l.Sublist s.2.2.2.2.2.1/\r.1=tJ s l:=by
 have hl:=h.2.2.1.1;unfold L9;rw[IP (by omega),a5I,A5];refine⟨λ_=>⟨_,rfl,s.2.2.2.2.2.1,List.Sublist.refl _,rfl⟩,λh1=>?_⟩;have h1:=a57 h1;have hs:∃e∈s.2.2.2.2.2.1,e.1=k:=by
  refine Classical.byContradiction λhc=>h1 ?_;rw[xK λe he hk=>hc ⟨e,he,hk⟩];decide
 obtain⟨i,e1,_,hi,_⟩:=xL hs;rw[e1,Cu (by omega) hi,a5I];exact⟨_,rfl,_,List.eraseIdx_sublist ..,rfl⟩
def uV(s:StD) (k:KD):StD:=tJ s (s.2.2.2.2.2.1.eraseP (isK k))
theorem EB{n:Nat}{s:StD}(h:StV md n s) (hn:n<=1000) (k:KD):L9 s k=some (uV s k,decide (∃e∈s.2.2.2.2.2.1,e.1=k)):=by
 have hl:=h.2.2.1.1;unfold L9 uV;rw[IP (by omega),a5I];by_cases hs:∃e∈s.2.2.2.2.2.1,e.1=k
 ·obtain⟨i,e1,e2,hi,_⟩:=xL hs;rw[e1,a5N (by omega),D3,Cu (by omega) hi,a5I,a5H hs,List.eraseP_eq_eraseIdx,e2];rfl
 ·have h':∀e∈s.2.2.2.2.2.1,e.1≠k:=λe he hk=>hs ⟨e,he,hk⟩;rw[xK h',a5H (by omega),D1,a5N hs,List.eraseP_of_forall_not λe he=>by rw[isK,a5N (h' e he)];decide];rfl
theorem CH(p:Int):bd p=some (decide (1<=p/\p<=15)):=by
 refine J1.1 ?_;unfold bd;simp only[A5,A1,a5M,a5L];exact⟨λh=>by simp[h],λh=>by rw[a5N];omega⟩
theorem Jn{l:List ED}{i:Nat}(h:i<l.length){a:ED}(e:a.1=l[i].1):((l.set i a).map λe=>e.1)=l.map λe=>e.1:=by
 rw[a8h];refine List.ext_getElem (by simp) λj h1 h2=>?_;rw[List.getElem_set];split
 ·rename_i hj;subst hj;simp[e]
 ·rfl
theorem a2w{n:Nat}{s:StD}(h:StV md n s) (hn:n<=1000){i p:Int}(hi:i<((s.2.2.2.2.2.1.length:Nat):Int)):Ok (hH s i p) λr=>StV md (n+1) r:=by
 unfold hH;rw[A5];refine⟨λ_=>⟨_,rfl,h.mono (by omega)⟩,λh0=>?_⟩;have h0:=a57 h0;obtain⟨j,rfl⟩:=a6G (by omega:(0:Int)<=i);have hj:j<s.2.2.2.2.2.1.length:=by omega
 have hk:=h.2.2.1.2.1 _ (a5V hj);have hl:=h.2.2.1.1;have hp:=hk.2.2.2;rw[CH,a5I,A5];refine⟨λ_=>⟨_,rfl,h.mono (by omega)⟩,λ_=>?_⟩;rw[a5H (by omega),B7,a5J,C9 hj,Ge (by omega),a5I,A5];refine⟨λ_=>⟨_,rfl,h.mono (by omega)⟩,λ_=>?_⟩;rw[a5H (pA (by omega)),B7,a5H hj,B7,a5H ⟨by unfold LIM;omega,by unfold LEN;omega⟩,B7,a5H ⟨by unfold LIM;omega,by unfold LEN;omega⟩,B7,B7];refine⟨_,rfl,h.1,h.2.1,⟨?_,λe he=>?_,?_⟩,h.2.2.2⟩
 ·rw[a6z];omega
 ·rcases a6C he with he|rfl
  ·exact(h.2.2.1.2.1 e he).mono (by omega)
  ·exact⟨hk.1,hk.2.1,hk.2.2.1,by rw[a5K,a51];omega⟩
 ·show((s.2.2.2.2.2.1.set j _).map λe=>e.1).Nodup;rw[Jn hj]
  ·exact h.2.2.1.2.2
  ·rfl
end Go.Proofs.YtjbgdpjgfjnkbaaGreatDoor.Am
namespace Go.Proofs.YtjbgdpjgfjnkbaaGreatDoor.Am
open Go
def nv(g:o8) (p:Int):List (List UInt8)->o8×List B1
 |[]=>(g,[])
 |r::rs=>((nv (N9 g p r).1 p rs).1,(N9 g p r).2::(nv (N9 g p r).1 p rs).2)
theorem xe(g:o8) (p:Int) (r:List UInt8) (rs:List (List UInt8)):nv g p (r::rs)=((nv (N9 g p r).1 p rs).1,(N9 g p r).2::(nv (N9 g p r).1 p rs).2):=rfl
theorem EC(p:Int):∀(a:List (List UInt8)) (g:o8) (b:List (List UInt8)),nv g p (a++b)=((nv (nv g p a).1 p b).1,(nv g p a).2++(nv (nv g p a).1 p b).2)
 |[],_,_=>rfl
 |r::a,g,b=>by rw[a6l,xe,xe,EC p a];rfl
theorem nw(p:Int):∀(l:List (List UInt8)) (g:o8),(nv g p l).2.length=l.length
 |[],_=>rfl
 |r::l,g=>by rw[xe,a54,a54,nw p l]
theorem rn{g:o8}{p:Int}{l:List (List UInt8)}{i:Nat}(h:i<l.length):nv g p (l.take (i+1))=((N9 (nv g p (l.take i)).1 p l[i]).1,(nv g p (l.take i)).2++[(N9 (nv g p (l.take i)).1 p l[i]).2]):=by
 rw[E4 h,EC];rfl
theorem Bb{g:o8}{p:Int}{l:List (List UInt8)}(i:Nat):(nv g p (l.take i)).2=(nv g p l).2.take i:=by
 rcases a6y i l.length with h|h
 ·have e:nv g p l=nv g p (l.take i++l.drop i):=by rw[a6d]
  have hl:(nv g p (l.take i)).2.length=i:=by rw[nw,a5T];omega
  rw[e,EC];show _=((nv g p (l.take i)).2++_).take i;rw[a62 (by omega)];exact(a6u (by omega)).symm
 ·rw[a6u h];exact(a6u (by rw[nw];exact h)).symm
theorem RI{g:o8}{p:Int}{l:List (List UInt8)}{i:Nat}(h:i<l.length):(nv g p l).2[i]'(by rw[nw];exact h)=(N9 (nv g p (l.take i)).1 p l[i]).2:=by
 have h1:=Bb (g:=g) (p:=p) (l:=l) (i+1);rw[rn h,Bb]at h1;have hl:i<(nv g p l).2.length:=by rw[nw];exact h
 rw[E4 hl]at h1;have:=List.append_cancel_left h1;injection this with this _;exact this.symm
theorem GR{p:Int}:∀{l:List (List UInt8)}{g:o8},xl g->xl (nv g p l).1
 |[],_,h=>h
 |r::l,_g,h=>GR (l:=l) (GI (p:=p) (raw:=r) h).1
theorem BH{L:List TR}:∀{l:List o5}{n:List UInt8},n∈J0 (L.foldl bn l)->n∈J0 l\/∃x∈L,x.1=n:=by
 induction L with
 |nil=>intro l n h;exact .inl h
 |cons x L ih=>
  intro l n h;rcases ih h with h|⟨y,hy,e⟩
  ·rcases(lQ l x n).1 h with h|h
   ·exact .inr ⟨x,a6M ..,h.symm⟩
   ·exact .inl h
  ·exact .inr ⟨y,a6h _ hy,e⟩
theorem RJ{L:List TR}:∀{l:List o5},vN l->vN (L.foldl bn l):=by
 induction L with
 |nil=>intro l h;exact h
 |cons x L ih=>intro l h;exact ih (GG h)
theorem a2x{g:o8}{p:Int}{raw:List UInt8}(h:KU g):KU (N9 g p raw).1/\(N9 g p raw).1.1.length<=max g.1.length 256:=by
 rcases xT g p raw with⟨e,_⟩|⟨hv,hd,hc,e,_⟩
 ·rw[e];exact⟨h,Nat.le_max_left ..⟩
 ·rw[e];obtain⟨k1,_,_,_,_,k6⟩:=Xd hc;have hts:=yB raw;refine⟨⟨Y2 _,RJ (λa ha=>?_),λa ha=>?_,by omega⟩,by omega⟩
  ·rw[nu k1]at ha;rcases a6C ha with ha|rfl
   ·exact h.2.1 a ha
   ·exact Y2 _
  ·rcases BH (n:=a.1) (a6S ha)with hm|⟨x,hx,ex⟩
   ·rw[uk k1]at hm;obtain⟨b,hb,eb⟩:=List.mem_map.1 hm;rw[<-eb];exact h.2.2.1 b hb
   ·rw[<-ex];have:=(hts.2.2.2.2.2.2 x hx).1;omega
theorem LC{p:Int}:∀{l:List (List UInt8)}{g:o8},KU g->KU (nv g p l).1/\(nv g p l).1.1.length<=max g.1.length 256
 |[],_,h=>⟨h,Nat.le_max_left ..⟩
 |r::l,g,h=>by
  obtain⟨h1,h2⟩:=a2x (p:=p) (raw:=r) h;obtain⟨h3,h4⟩:=LC (p:=p) (l:=l) h1;exact⟨h3,by show(nv (N9 g p r).1 p l).1.1.length<=_;omega⟩
def a2y(l:List B1):Nat:=l.findIdx λr=>decide (r.1≠0)
def VR(g:o8) (p:Int) (l:List (List UInt8)):o8×Int×Int:=
 if a2y (nv g p l).2<l.length then(MW,((a2y (nv g p l).2:Nat):Int),((nv g p l).2.getD (a2y (nv g p l).2) R6).1) else((nv g p l).1,0,0)
theorem RK{g:o8}{p:Int}{l:List (List UInt8)}{i:Nat}(h:i<l.length) (hb:∀r∈(nv g p (l.take i)).2,r.1=0) (hr:(N9 (nv g p (l.take i)).1 p l[i]).2.1≠0):VR g p l=(MW,(i:Int),(N9 (nv g p (l.take i)).1 p l[i]).2.1):=by
 have hl:i<(nv g p l).2.length:=by rw[nw];exact h
 have hi:a2y (nv g p l).2=i:=by
  refine Gg hl (by rw[RI h];exact a5H hr) λj hj hlt=>?_;refine a5N λk=>k (hb _ ?_);rw[Bb,List.mem_take_iff_getElem];exact⟨j,by omega,rfl⟩
 unfold VR;rw[hi,a5W h,C9 hl,RI h]
theorem RL{g:o8}{p:Int}{l:List (List UInt8)}(hb:∀r∈(nv g p l).2,r.1=0):VR g p l=((nv g p l).1,0,0):=by
 have hi:a2y (nv g p l).2=(nv g p l).2.length:=IT λj hj=>a5N λk=>k (hb _ (a5V hj));unfold VR;rw[a5U (by rw[hi,nw];omega)]
variable {md:Int}
theorem RM{l:List ED}(hl:l.length<=1000000):Ans (fX l):=by
 unfold fX lC;refine C8 l (λi (v:Int)=>(v,l,((l.length:Nat):Int),((i:Nat):Int))) (λ_ _=>True) (λi v hi _=>?_) (λv _=>?_) (b0:=0) trivial (by omega)
 ·unfold cS;dsimp only;rw[a5H (by omega:(i:Int)<((l.length:Nat):Int)),D1,a5H (by omega:(0:Int)<=(i:Int)/\(i:Int)<((l.length:Nat):Int)),B7,A1,A8,C1 (by omega)];exact⟨_,rfl,trivial⟩
 ·unfold cS;dsimp only;rw[a5N (by omega),D3,A1,B5];trivial
theorem VS{v6:Nat}{v7:List ED}{v8 v9:Int}{b0:ED}{l0:List ED}(h:v6<=l0.length) (hl:l0.length<=1000000):Ok (M9 (v6:Int) v7 v8 v9 b0 l0) λr=>∃l':List ED,r= .inl (v7,v8,B3 (v9+1),l')/\l'.length=l0.length+1:=by
 unfold M9;simp only[a5K,a51,a5Y,a5J,a5T,Nat.min_self];rw[a5H (by omega),B7,a5H (pA (by omega)),B7,a5H (pA (by omega)),B7,a5H (by omega),B7,a5H (pA (by omega)),B7];refine⟨_,rfl,_,rfl,?_⟩;simp only[a5K,a51,a5Y,a5T];omega
theorem VT{v7:List ED}{v8 v9:Int}{b0:ED}{l0:List ED}(hl:l0.length<=1000000):Ok (gw 0 v7 v8 v9 b0 l0) λr=>∃l':List ED,r= .inl (v7,v8,B3 (v9+1),l')/\l'.length=l0.length+1:=by
 unfold gw;refine L5 (λn v=>∃j:Nat,j+n=l0.length/\v=((j:Int),v7,v8,v9,b0,l0)) ?_ ⟨0,by omega,rfl⟩ (n:=l0.length) (by omega);rintro n v ⟨j,hj,rfl⟩;have fin:∀{o:Option ((List ED×Int×Int×List ED)⊕List ED)},o=M9 (j:Int) v7 v8 v9 b0 l0->Ok (Option.map Sum.inr o) (Nxt (λr=>∃l':List ED,r= .inl (v7,v8,B3 (v9+1),l')/\l'.length=l0.length+1) λz=>∃m,m<n/\∃j:Nat,j+m=l0.length/\z=((j:Int),v7,v8,v9,b0,l0)):=λe=>by
  rw[e,C4];exact(VS (by omega) hl).mono λr hr=>hr
 have go:j<l0.length->Ok (some (Sum.inl (B3 ((j:Int)+1),v7,v8,v9,b0,l0)):Option ((Int×List ED×Int×Int×ED×List ED)⊕((List ED×Int×Int×List ED)⊕List ED))) (Nxt (λr=>∃l':List ED,r= .inl (v7,v8,B3 (v9+1),l')/\l'.length=l0.length+1) λz=>∃m,m<n/\∃j:Nat,j+m=l0.length/\z=((j:Int),v7,v8,v9,b0,l0)):=λh=>by
  rw[A1,A8,C1 (by omega)];exact⟨n-1,by omega,j+1,by omega,rfl⟩
 unfold il;dsimp only;rw[A5];refine⟨λh=>?_,λh=>fin rfl⟩;have h:=a5P h;have hb:(0:Int)<=(j:Int)/\(j:Int)<((l0.length:Nat):Int):=by omega
 have hb2:Int.toNat (j:Int)<l0.length:=by omega
 rw[a5H hb,B7,a5H hb2,B7,A5];refine⟨λ_=>go (by omega),λ_=>?_⟩;rw[B7,B7,A5];refine⟨λ_=>?_,λ_=>fin rfl⟩;rw[B7,B7,A5];exact⟨λ_=>go (by omega),λ_=>fin rfl⟩
theorem RN{l:List ED}(hl:l.length<=1000000):Ok (fY l) λr=>r.length=l.length:=by
 unfold fY lD;refine C8 l (λi (v:List ED)=>(l,((l.length:Nat):Int),((i:Nat):Int),v)) (λi v=>v.length=i) (λi v hi hv=>?_) (λv hv=>?_) (b0:=[]) rfl (by omega)
 ·unfold cT;dsimp only;rw[a5H (by omega:(i:Int)<((l.length:Nat):Int)),D1,a5H (by omega:(0:Int)<=(i:Int)/\(i:Int)<((l.length:Nat):Int)),B7];refine(VT (by omega)).mono λr hr=>?_;obtain⟨l',rfl,h'⟩:=hr;rw[A8,C1 (by omega)];exact⟨l',rfl,by omega⟩
 ·unfold cT;dsimp only;rw[a5N (by omega),D3,A1,B5];exact hv
theorem LD(a b c:Int):Ans (dB a b c):=by
 unfold dB;simp only[Ans,A5,A1,a5M,a5L];exact⟨λ_=>trivial,λ_=>trivial⟩
theorem RO{a b c d e:Int}{l0:List KD}{n:Nat}(h:l0.length<=n):Ok (bC a b c d e l0) λr=>r.1.length<=n:=by
 unfold bC;rw[A5];refine⟨λ_=>?_,λ_=>⟨_,rfl,by simp⟩⟩;refine I5 (LD _ _ _) λr=>?_;rw[A5];exact⟨λ_=>⟨_,rfl,h⟩,λ_=>⟨_,rfl,by simp⟩⟩
theorem Nv{l:List ED}(hl:l.length<=1000000) (a b c d:Int):Ok (ff l a b c d) λr=>r.1.length<=l.length:=by
 unfold ff;refine I5 (RM hl) λr1=>?_;rw[A4];refine(RN hl).mono λo ho=>?_;unfold kA;refine C8 o (λi (v:Int×Int×List KD)=>(a,max b 0,c,d,v.1,v.2.1,o,((o.length:Nat):Int),((i:Nat):Int),v.2.2)) (λi v=>v.2.2.length<=i) (λi v hi hv=>?_) (λv hv=>?_) (b0:=(B3 (((l.length:Nat):Int)+1),r1,[])) (by simp) (by omega)
 ·have c3:∀{b0:ED},Ok (X3 a (max b 0) c d v.1 v.2.1 o ((o.length:Nat):Int) (i:Int) b0 v.2.2) (Nxt (λr=>r.1.length<=l.length) λz=>∃b':Int×Int×List KD,z=(a,max b 0,c,d,b'.1,b'.2.1,o,((o.length:Nat):Int),(((i+1:Nat):Nat):Int),b'.2.2)/\b'.2.2.length<=i+1):=fun {b0}=>by
   unfold X3;rw[A5];refine⟨λ_=>?_,λ_=>?_⟩
   ·rw[A1,B5];simp
   ·rw[a5H (nZ (by omega)),B7,A1,A8,C1 (by omega)];exact⟨(_,_,_),rfl,by simp only[a5K,a51];omega⟩
  unfold bD;dsimp only;rw[a5H (by omega:(i:Int)<((o.length:Nat):Int)),D1,a5H (by omega:(0:Int)<=(i:Int)/\(i:Int)<((o.length:Nat):Int)),B7,A5];refine⟨λ_=>I5 (LD _ _ _) λr=>?_,λ_=>c3⟩;rw[A5];refine⟨λ_=>?_,λ_=>c3⟩;rw[A1,B5];show v.2.2.length<=l.length;omega
 ·unfold bD;dsimp only;rw[a5N (by omega),D3,C4];exact(RO (n:=l.length) (by omega)).mono λr hr=>hr
theorem GS(s:StD) (g:Int):Ans (U0 s g):=by
 unfold U0;simp only[Ans,A5,A1,a5M,a5L];exact⟨λ_=>trivial,λ_=>trivial⟩
theorem Bc{a:H6}(h:Jk a){raw:List UInt8}(hr:raw.length<=140737488351232):ab a raw=some (N9 a.2.1 a.2.2.2.2 raw).2:=by
 unfold ab;rw[AU h.2.1.b h.2.2.2.2 hr,a5I]
theorem GU{a:H6}(h:Jk a){raw:List UInt8}(hr:raw.length<=140737488351232):Ok (M5 a raw) Jk:=by
 rw[Vy h hr];exact⟨_,rfl,h.1,GR (l:=[raw]) h.2.1,h.2.2.1,h.2.2.2.1,h.2.2.2.2⟩
theorem a2z{g:o8}{p:Int}{raw:List UInt8}(h:(N9 g p raw).2.1=0):(N9 g p raw).2.2.2.2.1=(iM raw).1.2.2.1:=by
 by_cases hv:Ee g=0
 ·by_cases hd:(iM raw).2=0
  ·rw[zx hv hd]
  ·rw[zw hv hd]at h;exact absurd h hd
 ·rw[zu hv]at h;cases h
theorem VU{n:Nat}{s t:StD}{raw:List UInt8}{p:Int}{rp:E3}{k:KD}{r:B1}{l:List KD}(h:StV md n s) (hn:n<=1000) (hr:raw.length<=10000) (hk:k=xV raw) (hne:∀e∈s.2.2.2.2.2.1,e.1≠k) (hg:r.2.2.2.1=(iM raw).1.2.2.1):Ok (cU raw p s t rp k r l) λx=>StV md (n+1) x.1:=by
 have hl:=h.2.2.1.1;unfold cU;rw[A4];refine(GU h.2.1 (by omega)).mono λa ha=>?_;rw[a5H ⟨by unfold LIM;omega,by unfold LEN;omega⟩,B7,CH,a5I];have fin:∀q:List Int,q.length<=1->Ok (Z2 (s.1,a,s.2.2) t rp k r k r.2.1 r.2.2.1 r.2.2.2.1 r.2.2.2.2 s.2.2.1 s.2.2.2.1 s.2.2.2.2.1 l raw q) λx=>StV md (n+1) x.1:=λq hq=>by
  unfold Z2;rw[decide_eq_true (pA (by dsimp only;omega)),B7,decide_eq_true (pA (by dsimp only;omega)),B7];refine⟨_,rfl,h.1,ha,⟨?_,λe he=>?_,?_⟩,h.2.2.2⟩
  ·rw[List.length_append,List.length_singleton];dsimp only;omega
  ·rcases List.mem_append.1 he with he|he
   ·exact(h.2.2.1.2.1 e he).mono (by omega)
   ·rw[List.mem_singleton.1 he];exact⟨hk,hr,hg,by dsimp only;omega⟩
  ·rw[a53,a6K];refine⟨h.2.2.1.2.2,by simp,λx hx y hy=>?_⟩;simp only[a55,a6B,a6b]at hy;subst hy;obtain⟨e,he,rfl⟩:=List.mem_map.1 hx;exact hne e he
 rw[A5];exact⟨λ_=>fin [p] (by simp),λ_=>fin [] (by simp)⟩
theorem VV{n:Nat}{s t:StD}{raw:List UInt8}{p:Int}{rp:E3}{k:KD}{r:B1}{l:List KD}(h:StV md n s) (hn:n<=1000) (hr:raw.length<=10000) (hk:k=xV raw) (hne:∀e∈s.2.2.2.2.2.1,e.1≠k) (hg:r.2.2.2.1=(iM raw).1.2.2.1) (hl:l.length<=1000000):Ok (gx raw p ((l.length:Nat):Int) 0 s t rp k r l) λx=>StV md (n+1) x.1:=by
 unfold gx;refine C8 l (λi (v:StD)=>(raw,p,((l.length:Nat):Int),((i:Nat):Int),v,t,rp,k,r,l)) (λ_ v=>StV md n v/\∀e∈v.2.2.2.2.2.1,e.1≠k) (λi v hi hv=>?_) (λv hv=>?_) (b0:=s) ⟨h,hne⟩ (by omega)
 ·unfold cV;dsimp only;rw[a5H (by omega:(i:Int)<((l.length:Nat):Int)),D1,a5H (by omega:(0:Int)<=(i:Int)/\(i:Int)<((l.length:Nat):Int)),B7,a5J,a5H hi,B7,A4];refine(EA hv.1 hn _).mono λr1 h1=>?_;obtain⟨m,hm,e1⟩:=h1;rw[e1,A4];refine(RH (hv.1.e (hv.1.2.2.1.sub hm)) _).mono λr2 h2=>?_;obtain⟨c,hc,rfl⟩:=h2;rw[A1,A8,C1 (by omega)];exact⟨_,rfl,(hv.1.e (hv.1.2.2.1.sub hm)).c hc,λe he=>hv.2 e (hm.subset he)⟩
 ·unfold cV;dsimp only;rw[a5N (by omega),D3,C4];exact(VU hv.1 hn hr hk hv.2 hg).mono λx hx=>hx
theorem LE{n:Nat}{s t:StD}{raw:List UInt8}{p i:Int}{b:Bool}{rp:E3}{k:KD}(h:StV md n s) (hn:n<=1000) (hr:raw.length<=10000) (hk:k=xV raw) (hi:i<((s.2.2.2.2.2.1.length:Nat):Int)) (hb:b=false->∀e∈s.2.2.2.2.2.1,e.1≠k):Ok (Z3 raw p i b s t rp k) λx=>StV md (n+1) x.1:=by
 unfold Z3;rw[A5];refine⟨λ_=>?_,λhb'=>?_⟩
 ·rw[A4];refine(RG h k).mono λr4 h4=>?_;obtain⟨c,hc,rfl⟩:=h4;rw[A4];exact(a2w (h.c hc) hn hi).mono λr5 h5=>⟨_,rfl,h5⟩
 ·rw[A4];refine(RG h k).mono λr6 h6=>?_;obtain⟨c,hc,rfl⟩:=h6;have h':=h.c hc;have hl:=h.2.2.1.1;have fg:∀{x:E3},Ok ((K7 (pD s c) k).bind λr8=>some (r8,x)) λx=>StV md (n+1) x.1:=fun {x}=>by
   rw[A4];refine(Ez h' k).mono λr8 h8=>?_;obtain⟨c2,hc2,rfl⟩:=h8;exact⟨_,rfl,(h'.c hc2).mono (by omega)⟩
  rw[Bc h'.2.1 (by omega),a5I,A5];refine⟨λ_=>fg,λh0=>?_⟩;have h0:(N9 (pD s c).2.1.2.1 (pD s c).2.1.2.2.2.2 raw).2.1=0:=by simpa using h0
  refine I5 (GS _ _) λr9=>?_;rw[A5];refine⟨λ_=>fg,λ_=>?_⟩;rw[A4];refine(Nv (by show s.2.2.2.2.2.1.length<=1000000;omega) _ _ _ _).mono λr11 h11=>?_;have h11:r11.1.length<=s.2.2.2.2.2.1.length:=h11;rw[A5];refine⟨λ_=>?_,λ_=>VV h' hn hr hk (hb hb') (a2z h0) (by omega)⟩;rw[A4];refine(RH h' k).mono λr8 h8=>?_;obtain⟨c2,hc2,rfl⟩:=h8;exact⟨_,rfl,(h'.c hc2).mono (by omega)⟩
theorem Zn{n:Nat}{s:StD}{raw:List UInt8}(h:StV md n s) (hn:n<=1000) (hr:raw.length<=10000) (p:Int):Ok (O5 s raw p) λx=>StV md (n+1) x.1:=by
 have hl:=h.2.2.1.1;have same:∀{x:E3},Ok (some (s,x)) λx=>StV md (n+1) x.1:=fun {x}=>⟨_,rfl,h.mono (by omega)⟩;unfold O5;rw[A5];refine⟨λ_=>same,λ_=>?_⟩;rw[pC (by omega),a5I,A5];refine⟨λ_=>same,λ_=>?_⟩;rw[GP (by omega),a5I,IP (by omega),a5I];by_cases hs:∃e∈s.2.2.2.2.2.1,e.1=xV raw
 ·obtain⟨i,e1,_,hi,_⟩:=xL hs;rw[e1,a5H (by omega),D1];exact LE h hn hr rfl (by omega) (λe=>by cases e)
 ·have hne:∀e∈s.2.2.2.2.2.1,e.1≠xV raw:=λe he hk=>hs ⟨e,he,hk⟩;rw[xK hne,a5N (by omega),D3];exact I5 (RE (by have:=h.2.2.2.1;omega) _) λr=>LE h hn hr rfl (by omega) (λ_=>hne)
end Go.Proofs.YtjbgdpjgfjnkbaaGreatDoor.Am
namespace Go.Proofs.YtjbgdpjgfjnkbaaGreatDoor.Am
open Go
theorem RP(b:Bool):WA b b=true:=by cases b <;> rfl
theorem VW(x:o5):U.beq C0 x x=true:=(U.beq_iff C0 _ rfl x x).2 rfl
theorem xf{g:o8}(hl:g.1.length<=5000000000000):L3 g g=some true:=by
 unfold L3;rw[a5H rfl,a6a,D3,a5H rfl,a6a,D3];refine J1.1 ?_;unfold iK;refine C8 g.1 (λi (_:Unit)=>(((g.1.length:Nat):Int),((i:Nat):Int),g,g)) (λ_ _=>True) (λi _ hi _=>?_) (λ_ _=>?_) (b0:=()) trivial (by omega)
 ·unfold Y4;dsimp only;rw[a5H (by omega:(i:Int)<((g.1.length:Nat):Int)),D1,a5H (by omega:(0:Int)<=(i:Int)/\(i:Int)<((g.1.length:Nat):Int)),B7,B7,show U.beq C0 (List.getD g.1 (Int.toNat (i:Int)) A6) (List.getD g.1 (Int.toNat (i:Int)) A6)=true from VW _,a6a,D3,A1,A8,C1 (by omega)];exact⟨(),rfl,trivial⟩
 ·unfold Y4;dsimp only;rw[a5N (by omega),D3,A1,B5]
theorem xW{l:List Int}(z:szU (.sl (.int .i64)) l):l.length<=140737488351232:=by
 have h:l.length*8<=reachBytes:=z.1;have hr:reachBytes=140737488351232:=rfl;omega
def RQ(l:List (List UInt8)):Prop:=l.length<=1000/\∀r∈l,r.length<=140737488351232
theorem Zo{g:o8}(hl:g.1.length<=4398046511000):oi g=some g:=by
 unfold oi;rw[Gi hl];rfl
theorem RR{g:o8}{p:Int}{l:List (List UInt8)}(hg:KU g) (hp:okU p) (hr:RQ l):jj g p l=some (nv g p l):=by
 obtain⟨hl,hr⟩:=hr;rw[<-J1];unfold jj mM;refine C8 l (λi (b:o8×List B1)=>(p,l,((l.length:Nat):Int),((i:Nat):Int),b.1,([],(0:Int)),b.2)) (λi b=>b=nv g p (l.take i)) (λi b hi hv=>?_) (λb hv=>?_) (b0:=(g,[])) rfl (by omega)
 ·have hb:=(LC (p:=p) (l:=l.take i) hg).1;have hn:=nw p (l.take i) g;rw[<-hv]at hb hn;rw[a5T]at hn;unfold fu;dsimp only;rw[a5H (by omega:(i:Int)<((l.length:Nat):Int)),D1,a5H (by omega:(0:Int)<=(i:Int)/\(i:Int)<((l.length:Nat):Int)),B7,a5J,C9 hi,AU hb hp (hr _ (a5V hi)),a5I,a5H ⟨by unfold LIM;omega,by unfold LEN;omega⟩,B7,A1,A8,C1 (by omega)];exact⟨((N9 b.1 p l[i]).1,b.2++[(N9 b.1 p l[i]).2]),rfl,by rw[rn hi,<-hv]⟩
 ·rw[a52]at hv;unfold fu jD;dsimp only;rw[a5N (by omega),D3,a6e,A1,B5,hv]
theorem Zp{g:o8}{p:Int}{l:List (List UInt8)}(hg:KU g) (hp:okU p) (hr:RQ l):wH g p l=some (VR g p l):=by
 obtain⟨hl,hr⟩:=hr;rw[<-J1];unfold wH;rw[Zo hg.2.2.2,a5I];unfold qS;refine C8 l (λi (b:o8)=>(p,l,((l.length:Nat):Int),((i:Nat):Int),b)) (λi b=>b=(nv g p (l.take i)).1/\∀r∈(nv g p (l.take i)).2,r.1=0) (λi b hi hv=>?_) (λb hv=>?_) (b0:=g) ⟨rfl,λr h=>(by cases h)⟩ (by omega)
 ·obtain⟨hv,hz⟩:=hv;have hb:=(LC (p:=p) (l:=l.take i) hg).1;rw[<-hv]at hb;unfold ov;dsimp only;rw[a5H (by omega:(i:Int)<((l.length:Nat):Int)),D1,a5H (by omega:(0:Int)<=(i:Int)/\(i:Int)<((l.length:Nat):Int)),B7,a5J,C9 hi,Jh hb hp (hr _ (a5V hi)),a5I];by_cases h0:(N9 b p l[i]).2.1=0
  ·rw[a5H h0,a6a,D3,A1,A8,C1 (by omega)];refine⟨_,rfl,by rw[rn hi,<-hv],λr hr=>?_⟩;rw[rn hi]at hr;rcases List.mem_append.1 hr with hr|hr
   ·exact hz r hr
   ·rw[List.mem_singleton.1 hr,<-hv];exact h0
  ·rw[a5N h0,a6g,D1,A1,B5];rw[hv]at h0⊢;exact(RK hi hz h0).symm
 ·obtain⟨hv,hz⟩:=hv;rw[a52]at hv hz;unfold ov sr;dsimp only;rw[a5N (by omega),D3,a6e,A1,B5,RL hz,hv]
theorem CI{g:o8}{p:Int}{l:List (List UInt8)}(hg:KU g) (hp:okU p) (hr:RQ l):X7 g p l=some (VR g p l):=by
 obtain⟨hl,hr⟩:=hr;rw[<-J1];unfold X7 kJ;refine C8 l (λi (b:o8)=>(p,l,((l.length:Nat):Int),((i:Nat):Int),b,([],(0:Int)))) (λi b=>b=(nv g p (l.take i)).1/\∀r∈(nv g p (l.take i)).2,r.1=0) (λi b hi hv=>?_) (λb hv=>?_) (b0:=g) ⟨rfl,λr h=>(by cases h)⟩ (by omega)
 ·obtain⟨hv,hz⟩:=hv;have hb:=(LC (p:=p) (l:=l.take i) hg).1;rw[<-hv]at hb;unfold bT;dsimp only;rw[a5H (by omega:(i:Int)<((l.length:Nat):Int)),D1,a5H (by omega:(0:Int)<=(i:Int)/\(i:Int)<((l.length:Nat):Int)),B7,a5J,C9 hi,AU hb hp (hr _ (a5V hi)),a5I];by_cases h0:(N9 b p l[i]).2.1=0
  ·rw[a5H h0,a6a,D3,A1,A8,C1 (by omega)];refine⟨_,rfl,by rw[rn hi,<-hv],λr hr=>?_⟩;rw[rn hi]at hr;rcases List.mem_append.1 hr with hr|hr
   ·exact hz r hr
   ·rw[List.mem_singleton.1 hr,<-hv];exact h0
  ·rw[a5N h0,a6g,D1,A1,B5];rw[hv]at h0⊢;exact(RK hi hz h0).symm
 ·obtain⟨hv,hz⟩:=hv;rw[a52]at hv hz;unfold bT gI;dsimp only;rw[a5N (by omega),D3,a6e,A1,B5,RL hz,hv]
theorem VX(g:o8) (p:Int) (raw:List UInt8):okU (N9 g p raw).2.2.2.2.1:=by
 show okU (rsF g p raw).2.2.2.1;unfold rsF;split
 ·exact qe
 ·split
  ·exact qe
  ·exact(yB raw).2.2.1
theorem LF(p:Int):∀(l:List (List UInt8)) (g:o8),∀r∈(nv g p l).2,okU r.2.2.2.1
 |[],_,_,h=>by cases h
 |x::l,g,r,h=>by
  rcases List.mem_cons.1 h with rfl|h
  ·exact VX g p x
  ·exact LF p l _ r h
theorem VY{g:o8}{p:Int}{raw:List UInt8}(hg:KU g) (hp:okU p) (hr:raw.length<=140737488351232):ir g p raw=some (N9 g p raw).1:=by
 unfold ir;rw[AU hg hp hr,a5I]
theorem Xm{L:List Int}{k n:Int}{s:o7}{a:H6}(hs:ky L k s) (hk:k<100000000) (h0:0<=k) (ha:Jk a) (hn:0<=n) (hn2:n<=6):Ok (fm s a n) λr=>ky L (k+400) r.1/\s.2<r.1.2/\r.2.length<=6/\∀b∈r.2,b.length<=4096:=by
 unfold fm;rw[D9 (by omega) (by omega),A4];refine(K9 hs (n:=n+1) (by omega) (by omega) (by omega)).mono λr1 h1=>?_;obtain⟨a1,a2,a3,a4⟩:=h1;unfold mL;refine L5 (λn v=>∃(u:o7) (g:o8) (l:List (List UInt8)) (i:Nat),v=((i:Int),u,a,g,l)/\n=i/\i+l.length<=6/\ky L (k+350-50*i) u/\s.2<u.2/\xl g/\∀b∈l,b.length<=4096) ?_ (n:=r1.2.toNat) ⟨r1.1,a.1,[],r1.2.toNat,by rw[a6R a3],rfl,by simp only[a6v];omega,a1.le (by omega),by omega,ha.1,λb hb=>(by cases hb)⟩ (by omega);rintro m v ⟨u,g,l,i,rfl,rfl,hi,hu,hq,hg,hl⟩;unfold jC;dsimp only;rw[A5];refine⟨λh=>?_,λh=>?_⟩
 ·have h:=a5P h;have hw:B3 ((m:Int)-1)=((m-1:Nat):Int):=IR (by omega) (by omega);have hc2:∀{y:o7} {raw:List UInt8},ky L (k+350-50*m+45) y->s.2<y.2->raw.length<=4096->Ok (bh (m:Int) raw y a g l) (Nxt (λr=>ky L (k+400) r.1/\s.2<r.1.2/\r.2.length<=6/\∀b∈r.2,b.length<=4096) λz=>∃m',m'<m/\∃(u:o7) (g:o8) (l:List (List UInt8)) (i:Nat),z=((i:Int),u,a,g,l)/\m'=i/\i+l.length<=6/\ky L (k+350-50*i) u/\s.2<u.2/\xl g/\∀b∈l,b.length<=4096):=by
   intro y raw hy hy2 hraw;unfold bh;rw[a5H ⟨by unfold LIM;omega,by unfold LEN;omega⟩,B7,VY hg.b ha.2.2.2.2 (by omega),a5I,A1,A8,hw];refine⟨m-1,by omega,y,_,_,m-1,rfl,rfl,by rw[a5K,a51];omega,hy.le (by omega),hy2,(GI hg).1,λb hb=>?_⟩;rcases List.mem_append.1 hb with hb|hb
   ·exact hl b hb
   ·rw[List.mem_singleton.1 hb];exact hraw
  rw[A4];refine(Xj hu (by omega) (by omega) hg.1).mono λr2 h2=>?_;obtain⟨b1,b2,b3⟩:=h2;rw[A5];refine⟨λhpos=>?_,λ_=>?_⟩
  ·have hpos:=a5P hpos;rw[A4];refine(K9 b1 (n:=9) (by omega) (by omega) (by omega)).mono λr5 h5=>?_;obtain⟨c1,c2,c3,c4⟩:=h5;unfold bi;rw[A5];refine⟨λ_=>?_,λ_=>hc2 (c1.le (by omega)) (by omega) b3⟩;rw[A4];refine(K9 c1 (n:=((l.length:Nat):Int)) (by omega) (by omega) (by omega)).mono λr4 h4=>?_;obtain⟨d1,d2,d3,d4⟩:=h4;rw[a5H ⟨d3,d4⟩,B7,a5H (by omega),B7];have hlt:Int.toNat r4.2<l.length:=by omega
   rw[C9 hlt];exact hc2 (d1.le (by omega)) (by omega) (hl _ (a5V hlt))
  ·unfold bi;rw[D3];exact hc2 (b1.le (by omega)) (by omega) b3
 ·rw[A1,B5];exact⟨hu.le (by omega),hq,by dsimp only;omega,hl⟩
end Go.Proofs.YtjbgdpjgfjnkbaaGreatDoor.Am
