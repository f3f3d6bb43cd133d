/- Texts laid together: PBldR, PJdg, PNode. No conditions. -/
import Derived.Test.YtjbgdpjgfjnkbaaGreatDoorQAZ
namespace Go.Proofs.YtjbgdpjgfjnkbaaGreatDoor.Am
open Go
variable {md:Int}
theorem AG (mb mg:Int) (h:mg<=9223372036854775807):aK mb mg=some (if mb < 0\/mg < -1 then(((0:Int),(0:Int),false),false) else((mb,max mg 0,decide (mg < 0)),true)):=by
 unfold aK;by_cases c1:mb < 0
 ·rw [a2S c1,E8,a28 (.inl c1)]
 by_cases c2:mg < -1
 ·rw [a2Y c1,E3,a2S c2,E8,a28 (.inr c2)]
 rw [a2Y c1,E3,a2Y c2,E3,a25 (by omega),J4 (by omega) (by omega)]
theorem yY {n:Nat} {s:StD} (h:StV md n s) (hn:n<=500) {mb mg:Int} (h1:mb<=9223372036854775807) (h2:mg<=9223372036854775807):Y0 s mb mg=some (eL s mb mg):=by
 unfold Y0 eL;rw [AG mb mg h2,a2X];by_cases c:mb < 0\/mg < -1
 ·rw [a28 c,a28 c];rfl
 rw [a25 c,a25 c];dsimp only;have hes:=h.2.2.1.1;rw [a3m,E3,wx (by omega),a2X];refine J3.1 ?_;have hl:∀ e ∈ jX s.2.2.2.2.2.1,GK n e:=λe he=>h.2.2.1.2.1 e (lA.1 he);have hlen:(jX s.2.2.2.2.2.1).length<=n:=by rw [rZ];exact h.2.2.1.1
 generalize jX s.2.2.2.2.2.1=l at hl hlen;have hinit:=se h (mb:=mb) (mg:=mg) (by omega) h1 h2;unfold kF;refine D8 l (λi (v:BSt)=>(l,((l.length:Nat):Int),((i:Nat):Int),s,(v.1,v.2.1,decide (mg < 0)),v.2.2.1,v.2.2.2)) (λi v=>v=iY (decide (mg < 0)) s.2.1.2.2.2.2 (nh s mb mg) (l.take i)) (λi v hi hv=>?_) (λv hv=>?_) (b0:=nh s mb mg) rfl (by omega)
 ·have hb:=pW (free:=decide (mg < 0)) (p:=s.2.1.2.2.2.2) hinit hl i (by omega);rw [<-hv] at hb;have he:=hl _ (a29 hi);have heg:=he.gas;have her:=he.2.1;obtain⟨b1,b2,b3,b4,b5⟩:=hb;unfold okU at b2 heg;have c2:∀ {b4:E6} {b5:o8} {b:Bool},b=nt (decide (mg < 0)) s.2.1.2.2.2.2 v l[i]->(b=true->(b4,b5)=(((v.1 - fsz l[i].2.1.length,(if decide (mg < 0)=true then v.2.1 else v.2.1 - l[i].2.2.2.2.1),decide (mg < 0)):E6),(T7 v.2.2.1 s.2.1.2.2.2.2 l[i].2.1).1))->Ok (R5 l ((l.length:Nat):Int) (i:Int) b s (v.1,v.2.1,decide (mg < 0)) v.2.2.1 l[i] b4 b5 v.2.2.2) (Nxt (λr=>r=(iY (decide (mg < 0)) s.2.1.2.2.2.2 (nh s mb mg) l).2.2.2) λz=>∃ b':BSt,z=(l,((l.length:Nat):Int),(((i + 1:Nat):Nat):Int),s,(b'.1,b'.2.1,decide (mg < 0)),b'.2.2.1,b'.2.2.2)/\b'=iY (decide (mg < 0)) s.2.1.2.2.2.2 (nh s mb mg) (l.take (i + 1))):=fun {b4'} {b5'} {b} e1 e2=>by
   unfold R5;rw [A7];refine⟨λhb=>?_,λhb=>?_⟩
   ·have e3:=e2 hb;injection e3 with e4 e5;subst e4 e5;rw [a2S (Uu (by omega)),C4,a2S (yW (by omega)),C4,A4,B5,D2 (by omega)];refine⟨qG (decide (mg < 0)) s.2.1.2.2.2.2 v l[i],rfl,?_⟩;rw [mq hi,<-hv];unfold lD;rw [<-e1,a28 hb]
   ·rw [A4,B5,D2 (by omega)];refine⟨v,rfl,?_⟩;rw [mq hi,<-hv];unfold lD;rw [<-e1,hb];rfl
  have ht:=AF (r:=(v.1,v.2.1,decide (mg < 0))) (e:=l[i]) ⟨by omega,by have:=he.2.2.2;omega⟩ b1.1 (by dsimp only;omega) b2.1 (by dsimp only;omega) heg.1;dsimp only at ht;unfold cC;dsimp only;rw [a2S (by omega:(i:Int) < ((l.length:Nat):Int)),E8,a2S (by omega:(0:Int)<=(i:Int)/\(i:Int) < ((l.length:Nat):Int)),C4,a2T,E0 hi,ht,a2X,wC b3.b h.2.1.2.2.2.2 (by omega),a2X];by_cases hf:lF (decide (mg < 0)) v.1 v.2.1 l[i]=true
  ·rw [a28 hf];dsimp only;rw [E8];by_cases hc:(T7 v.2.2.1 s.2.1.2.2.2.2 l[i].2.1).2.1=0
   ·rw [a2S hc,E8,a2S (by omega)];refine c2 ?_ (λ_=>rfl);unfold nt;rw [hf,a2S hc];rfl
   ·rw [a2Y hc,E3];refine c2 ?_ (λe=>by cases e);unfold nt;rw [hf,a2Y hc];rfl
  ·rw [a25 hf];dsimp only;rw [E3];refine c2 ?_ (λe=>by cases e);unfold nt;rw [a5b _ |>.mp hf];rfl
 ·unfold cC;dsimp only;rw [a2Y (by omega),E3,A4,B8];show v.2.2.2=_;rw [hv,a3i]
def sK (l:List (List UInt8)):List Int:=l.map λr=>(gR r).1.2.2.1
theorem Uw (l:List (List UInt8)):∀ x ∈ sK l,okU x:=λx hx=>by
 obtain⟨r,_,rfl⟩:=List.mem_map.1 hx;exact(vv r).2.2.1
theorem Tb {l:List (List UInt8)} (hl:yX l):mA l=some (uy (sK l).sum):=by
 have hl':=hl.1;refine J3.1 ?_;unfold mA oD;refine D8 l (λi (v:List Int)=>(l,((l.length:Nat):Int),((i:Nat):Int),v)) (λi v=>v=sK (l.take i)) (λi v hi hv=>?_) (λv hv=>?_) (b0:=[]) rfl (by omega)
 ·have hr:=hl.2 _ (a29 hi);have hv':v.length<=l.length:=by rw [hv];unfold sK;rw [a3d,a26];omega
  unfold jo;dsimp only;rw [a2S (by omega:(i:Int) < ((l.length:Nat):Int)),E8,a2S (by omega:(0:Int)<=(i:Int)/\(i:Int) < ((l.length:Nat):Int)),C4,a2T,E0 hi,Ej hr,a2X,a2S ⟨by unfold LIM;omega,by unfold LEN;omega⟩,C4,A4,B5,D2 (by omega)];refine⟨_,rfl,?_⟩;rw [hv,I2 hi];unfold sK;rw [a3g];rfl
 ·unfold jo mm;dsimp only;rw [a2Y (by omega),E3,C9];rw [a3i] at hv;subst hv;rw [Cg (Uw l) (by unfold sK;rw [a3d];omega),a2X];exact⟨_,rfl,rfl⟩
def AH (s:StD) (l:List (List UInt8)) (mb mg:Int):Int:=
 if mb < 0\/mg < -1 then 1 else if 512 < l.length\/mb < (pZ l:Int) then 3
 else if(PP s.2.1.1 s.2.1.2.2.2.2 l).2.2 ≠ 0 then(PP s.2.1.1 s.2.1.2.2.2.2 l).2.2
 else if 0<=mg/\mg < (sK l).sum then 3 else 0
theorem CC (l:List (List UInt8)):0<=(sK l).sum:=yJ λx hx=>(Uw l x hx).1
theorem AI {n:Nat} {s:StD} {l:List (List UInt8)} (h:StV md n s) (hl:yX l) {mb mg:Int} (h2:mg<=9223372036854775807):Y1 s l mb mg=some (AH s l mb mg):=by
 unfold Y1 AH;by_cases c1:mb < 0
 ·rw [a2S c1,E8,a28 (.inl c1)];rfl
 by_cases c2:mg < -1
 ·rw [a2Y c1,E3,a2S c2,a28 (.inr c2)];rfl
 rw [a2Y c1,E3,a2Y c2,a25 (by omega)];unfold gD;rw [E3];by_cases c3:512 < l.length
 ·rw [a2S (by omega),E8,a28 (.inl c3)]
 rw [a2Y (by omega),E3,Pu hl,a2X];by_cases c4:mb < (pZ l:Int)
 ·rw [a2S c4,E8,a28 (.inr c4)]
 rw [a2Y c4,E3,a25 (by omega),GO h.2.1.1.b h.2.1.2.2.2.2 ⟨by omega,hl.2⟩,a2X];by_cases c5:(PP s.2.1.1 s.2.1.2.2.2.2 l).2.2=0
 ·rw [a2S c5,a3m,E3,a25 (λhx=>hx c5),Tb hl,a2X];have hnn:=CC l;by_cases c6:0<=mg
  ·rw [a2S c6,E8];unfold uy;split
   ·rename_i c7;dsimp only;rw [a3m,E3,J4 c6 (by omega)];by_cases c8:mg < (sK l).sum
    ·rw [a2S c8,E8,a28 ⟨c6,c8⟩]
    ·rw [a2Y c8,E3,a25 (λhx=>c8 hx.2)]
   ·dsimp only;rw [a3r,E8,a28 ⟨c6,by omega⟩]
  ·rw [a2Y c6,E3,a25 (λhx=>c6 hx.1)]
 ·rw [a2Y c5,a3r,E8,a28 c5]
end Go.Proofs.YtjbgdpjgfjnkbaaGreatDoor.Am
namespace Go.Proofs.YtjbgdpjgfjnkbaaGreatDoor.Am
open Go
variable {md:Int}
theorem Ez (l:List (List UInt8)) (i:Nat):pZ (l.take i)<=pZ l:=by
 have e:pZ l=pZ (l.take i) + pZ (l.drop i):=by rw [<-vD,a3q]
 omega
theorem wE (l:List (List UInt8)) (i:Nat):(sK (l.take i)).sum<=(sK l).sum:=by
 have e:(sK l).sum=(sK (l.take i)).sum + (sK (l.drop i)).sum:=by
  unfold sK;rw [<-a4k,<-a3g,a3q]
 have:=CC (l.drop i);omega
theorem EA {l:List (List UInt8)} {i:Nat} (h:i < l.length):(sK (l.take (i + 1))).sum=(sK (l.take i)).sum + (gR l[i]).1.2.2.1:=by
 rw [I2 h];unfold sK;rw [a3g,a4k];simp
theorem EB {n:Nat} {s:StD} {l:List (List UInt8)} (h:StV md n s) (hl:yX l) {mb mg:Int} (h1:mb<=9223372036854775807) (h2:mg<=9223372036854775807):bV s l mb mg=some (AH s l mb mg):=by
 unfold bV AH;rw [AG mb mg h2,a2X];by_cases c:mb < 0\/mg < -1
 ·rw [a28 c,a28 c];rfl
 rw [a25 c,a25 c];dsimp only;rw [a3m,E3];by_cases c3:512 < l.length
 ·rw [a2S (by omega),E8,a28 (.inl c3)]
 rw [a2Y (by omega),E3,xz hl,a2X];by_cases c4:mb < (pZ l:Int)
 ·rw [a2S c4,E8,a28 (.inr c4)]
 rw [a2Y c4,E3,a25 (by omega),Lb h.2.1.1.b h.2.1.2.2.2.2 ⟨by omega,hl.2⟩,a2X];by_cases c5:(PP s.2.1.1 s.2.1.2.2.2.2 l).2.2=0
 ·rw [a2S c5,a3m,E3,a25 (λhx=>hx c5)];refine J3.1 ?_;have hl':=hl.1;unfold kI;refine D8 l (λi (v:Int × Int)=>(l,((l.length:Nat):Int),((i:Nat):Int),(v.1,v.2,decide (mg < 0)))) (λi v=>v.1=mb - (pZ (l.take i):Int)/\(mg < 0->v.2=max mg 0)/\(0<=mg->v.2=mg - (sK (l.take i)).sum/\(sK (l.take i)).sum<=mg)) (λi v hi hv=>?_) (λv hv=>?_) (b0:=(mb,max mg 0)) ⟨by simp [pZ],λ_=>rfl,λhm=>⟨by simp [sK];omega,by simp [sK];omega⟩⟩ (by omega)
  ·obtain⟨b,g⟩:=v;obtain⟨v1,v2,v3⟩:=hv;dsimp only at v1 v2 v3;have hr:=hl.2 _ (a29 hi);have hz:=Ez l (i + 1);have hz2:pZ (l.take (i + 1))=pZ (l.take i) + fsz l[i].length:=by rw [I2 hi,vD,xy]
   have hg:=wE l (i + 1);have hg2:=EA hi;have hu:=(vv l[i]).2.2.1;have hnn:=CC (l.take i);have hgr:0<=g/\g < 18446744073709551616:=by
    by_cases hm:0<=mg
    ·obtain⟨w1,w2⟩:=v3 hm;omega
    ·have:=v2 (by omega);omega
   unfold ri at hu;have ht:=AF (r:=(b,g,decide (mg < 0))) (e:=((Vector.replicate 32 (0:UInt8)),l[i],[],(0:Int),(gR l[i]).1.2.2.1,(0:Int),(0:Int),(0:Int),(0:Int),[])) ⟨by dsimp only;omega,by simp⟩ (by dsimp only;omega) (by dsimp only;omega) hgr.1 hgr.2 hu.1;dsimp only at ht;unfold cM
   try dsimp only
   rw [a2S (by omega:(i:Int) < ((l.length:Nat):Int)),E8,a2S (by omega:(0:Int)<=(i:Int)/\(i:Int) < ((l.length:Nat):Int)),C4,a2T,E0 hi,AA hr,a2X,ht,a2X];by_cases hf:mg < 0\/(gR l[i]).1.2.2.1<=g
   ·have hfit:lF (decide (mg < 0)) b g ((Vector.replicate 32 (0:UInt8)),l[i],[],(0:Int),(gR l[i]).1.2.2.1,(0:Int),(0:Int),(0:Int),(0:Int),[])=true:=by
     unfold lF;simp only [a24,a3Y,a2W];exact⟨by omega,hf⟩
    rw [a28 hfit];dsimp only;rw [a3m,E3,A4,B5,D2 (by omega)];refine⟨(_,_),rfl,by dsimp only;omega,λhm=>?_,λhm=>?_⟩
    ·show(if decide (mg < 0)=true then g else g - (gR l[i]).1.2.2.1)=max mg 0
     rw [a28 (a2S hm)];exact v2 hm
    ·obtain⟨w1,w2⟩:=v3 hm;show(if decide (mg < 0)=true then g else g - (gR l[i]).1.2.2.1)=mg - (sK (l.take (i + 1))).sum/\(sK (l.take (i + 1))).sum<=mg
     rw [a25 (by rw [a2Y (by omega)];decide)];omega
   ·have hfit:¬ lF (decide (mg < 0)) b g ((Vector.replicate 32 (0:UInt8)),l[i],[],(0:Int),(gR l[i]).1.2.2.1,(0:Int),(0:Int),(0:Int),(0:Int),[])=true:=by
     unfold lF;simp only [a24,a3Y,a2W];exact λhx=>hf hx.2
    rw [a25 hfit];dsimp only;rw [a3r,E8,A4,B8];obtain⟨w1,w2⟩:=v3 (by omega);show(3:Int)=_;rw [a28 ⟨by omega,by omega⟩]
  ·obtain⟨b,g⟩:=v;obtain⟨v1,v2,v3⟩:=hv;dsimp only at v1 v2 v3;rw [a3i] at v3;unfold cM
   try dsimp only
   rw [a2Y (by omega),E3,A4,B8];show(0:Int)=_;rw [a25 (λhx=>by have:=v3 hx.1;omega)]
 ·rw [a2Y c5,a3r,E8,a28 c5]
end Go.Proofs.YtjbgdpjgfjnkbaaGreatDoor.Am
namespace Go.Proofs.YtjbgdpjgfjnkbaaGreatDoor.Am
open Go
abbrev pd:=B6
def kr (n:Nat) (x:pd):Prop:=StV 1 n x.1/\x.2.2.1.length<=n/\(x.2.2.2.1.length=15/\∀ k ∈ x.2.2.2.1,k.length<=n)/\za 10000 x.2.2.2.2.2.1.2/\x.2.2.2.2.2.2.length<=16777216
theorem kr.mono {n m:Nat} {x:pd} (h:kr n x) (k:n<=m):kr m x:=
 ⟨h.1.mono k,a3w h.2.1 k,⟨h.2.2.1.1,λl hl=>a3w (h.2.2.1.2 l hl) k⟩,h.2.2.2⟩
theorem a2j (n:Nat):za n []:=⟨by simp,λx hx=>by cases hx⟩
theorem Ww (n:Nat):wO n []:=⟨a3B _,λe he=>(by cases he),a4j⟩
theorem dH {n:Nat} {x:pd} (h:kr n x) (e:Int):Ok ((D6 x e).bind λr=>some (r.1,r.2)) λr=>kr (n + 1) r.1:=⟨_,rfl,h.mono (by omega)⟩
theorem Ux {n:Nat} (h:n<=1000000):n * 176<=LIM/\n<=LEN:=by unfold LIM LEN;omega
theorem Jr {n:Nat} {x:pd} {b:G9} (h:kr n x) (hn:n<=400) (hb:za 1000000 b.2):Ok (aN x b) λr=>kr (n + 1) r.1:=by
 obtain⟨hs,hbl,hse,hpr,hlog⟩:=h;have h:kr n x:=⟨hs,hbl,hse,hpr,hlog⟩;unfold aN;rw [A5];refine(Jq hb (by omega)).mono λr1 h1=>?_;rw [A7];refine⟨λ_=>dH h _,λe1=>?_⟩;obtain⟨_,hb512⟩:=h1 (by simpa using e1);rw [A5];refine(GP hlog).mono λr3 h3=>?_;rw [A7];refine⟨λ_=>dH h _,λ_=>?_⟩;rw [A5];refine(Ld hs.2.1 (raws:=b.2) ⟨by omega,λr hr=>by have:=hb.2 r hr;omega⟩).mono λr5 h5=>?_;rw [A7];refine⟨λ_=>dH h _,λe5=>?_⟩;obtain⟨f1,f2⟩:=h5 (by simpa using e5);rw [a2S (Ux (by omega)),C4,a2S (Ux (by omega)),C4,f1,f2,A5];refine(SY (a:=x.1.2.1) hs.2.1 (Ji hs.2.1.1)).mono λr7 h7=>?_;refine H2 (GQ h7.1.1 (Jn _ _ _) (by rw [mG];omega)) λr8=>?_;rw [A5];refine(SX (n:=n) (s:=(x.1.1,r7.1,x.1.2.2)) (hs.a h7) (by omega) (by omega) (λr hr=>by have:=hb.2 r hr;omega)).mono λr9 h9=>?_;obtain⟨hl15,hsk⟩:=hse;obtain⟨sent,es⟩:∃ sent,sent=x.2.2.2.1:=⟨_,rfl⟩;rw [<-es] at hl15 hsk ⊢;have hent:=h9.2.2.1.1;unfold jT;refine D8 sent (λi (v:List (List KD))=>(sent,((sent.length:Nat):Int),((i:Nat):Int),_,_,_,_,_,_,_,_,_,_,_,_,_,_,_,_,_,_,_,_,_,_,_,_,_,_,_,_,_,_,_,_,_,_,_,_,_,_,_,_,_,_,_,_,_,_,_,_,_,_,_,_,v,_)) (λi v=>v.length=i/\∀ k ∈ v,k.length<=n) (λi v hi hv=>?_) (λv hv=>?_) (b0:=[]) ⟨rfl,λk hk=>by cases hk⟩ (by omega)
 ·have hk:=hsk _ (a29 hi);unfold bp;dsimp only;rw [a2S (by omega:(i:Int) < ((sent.length:Nat):Int)),E8,a2S (by omega:(0:Int)<=(i:Int)/\(i:Int) < ((sent.length:Nat):Int)),C4,a2T,E0 hi,A5];refine(Wu (by omega) (by omega)).mono λr11 h11=>?_;rw [a2S (yW (by omega)),C4,A4,B5,D2 (by omega)];refine⟨_,rfl,by rw [a2V,a3f];omega,λk hk'=>?_⟩;rcases List.mem_append.1 hk' with hk' | hk'
  ·exact hv.2 k hk'
  ·rw [List.mem_singleton.1 hk'];omega
 ·unfold bp;dsimp only;rw [a2Y (by omega),E3,C9];unfold fW;refine H2 (xx _) λr10=>⟨_,rfl,?_⟩;refine⟨h9.mono (by omega),?_,⟨by rw [<-hl15];exact hv.1,λk hk=>a3u (hv.2 k hk)⟩,a2j _,h3⟩;show(x.2.2.1 ++ [b]).length<=n + 1;rw [a2V,a3f];omega
theorem Td (c:D9) (h:CfV 1 c) {a b:Int} (ha:a<=9223372036854775807) (hb:b<=9223372036854775807):Ok (eh c a b) λr=>r.1<=9223372036854775807/\r.2<=9223372036854775807:=by
 have h1:=h.2.1;have h2:=h.2.2;unfold eh V6;rw [A7];refine⟨λ_=>⟨_,rfl,by dsimp only;omega,hb⟩,λ_=>?_⟩;rw [A7];exact⟨λ_=>⟨_,rfl,by dsimp only;omega,h2⟩,λ_=>⟨_,rfl,by dsimp only;omega,by dsimp only;omega⟩⟩
theorem Py {n:Nat} {x:pd} {op:P4} (h:kr n x) (hn:n<=400) (h1:op.2.2.1<=9223372036854775807) (h2:op.2.2.2.1<=9223372036854775807):Ok (dB x op) λr=>kr (n + 1) r.1:=by
 unfold dB;rw [A7];refine⟨λ_=>dH h _,λ_=>?_⟩;rw [A7];refine⟨λ_=>dH h _,λ_=>?_⟩;rw [h.1.1.1,a2Y (by decide:¬ (1:Int)=0),a3r,C4,A7];refine⟨λ_=>dH h _,λ_=>?_⟩;rw [A7];refine⟨λ_=>dH h _,λ_=>?_⟩;rw [A7];refine⟨λ_=>dH h _,λ_=>?_⟩;rw [A5];refine(Td _ h.1.1 h1 h2).mono λr6 h6=>?_;have hbl:=pX h.1 h6.1 h6.2;rw [yY h.1 (by omega) h6.1 h6.2,a2X,A5];have htx:za 10000 (eL x.1 r6.1 r6.2):=⟨by omega,hbl.2⟩;refine(Uv htx (by omega)).mono λr8 h8=>?_;refine H2 (xx _) λr9=>⟨_,rfl,h.1.mono (by omega),a3u h.2.1,⟨h.2.2.1.1,λl hl=>a3u (h.2.2.1.2 l hl)⟩,?_,h.2.2.2.2⟩;show za 10000 r8.2;rw [h8];exact htx
theorem EC {n:Nat} {x:pd} {raw:List UInt8} (h:kr n x) (hr:raw.length<=1000000):Ok (ae x raw) λr=>za 1000000 r.1.2:=by
 unfold ae;rw [A5];refine(SZ (by omega)).mono λr1 h1=>?_;have hb:za 1000000 r1.1.2:=⟨h1.1,λb hb=>by have:=h1.2 b hb;omega⟩;rw [A7];refine⟨λ_=>⟨_,rfl,hb⟩,λ_=>?_⟩;rw [h.1.1.1];exact H2 (zF hb (by omega)) λr2=>⟨_,rfl,hb⟩
theorem Lf {n:Nat} {x:pd} {raw:List UInt8} (h:kr n x) (hr:raw.length<=1000000):Ok (cN x raw) λr=>kr (n + 1) r.1:=by
 unfold cN;rw [A5];refine(EC h hr).mono λr1 h1=>?_;rw [A7];refine⟨λ_=>dH h _,λ_=>?_⟩;rw [EB h.1 (h1.list (by omega)) h.1.1.2.1 h.1.1.2.2,a2X,A7];refine⟨λ_=>dH h _,λ_=>?_⟩;exact H2 (xx _) λr5=>⟨_,rfl,h.mono (by omega)⟩
theorem Wx {n:Nat} {x:pd} (h:kr n x) (hn:n<=400):Ok (fB x) λr=>kr (n + 1) r.1:=by
 have hl:=h.1.2.2.1.1;unfold fB kJ;obtain⟨es,e0⟩:∃ es,es=x.1.2.2.2.2.2.1:=⟨_,rfl⟩;rw [<-e0] at hl ⊢;refine D8 es (λi (v:List KD)=>(es,((es.length:Nat):Int),((i:Nat):Int),_,_,_,_,_,_,_,_,_,_,_,_,_,_,_,_,_,_,_,_,_,_,_,_,_,_,_,_,_,_,_,_,_,_,_,_,_,_,_,_,_,_,_,_,v)) (λi v=>v.length=i) (λi v hi hv=>?_) (λv hv=>?_) (b0:=[]) rfl (by omega)
 ·unfold cO;dsimp only;rw [a2S (by omega:(i:Int) < ((es.length:Nat):Int)),E8,a2S (by omega:(0:Int)<=(i:Int)/\(i:Int) < ((es.length:Nat):Int)),C4,a2S (tn (by omega)),C4,A4,B5,D2 (by omega)];exact⟨_,rfl,by rw [a2V,a3f];omega⟩
 ·unfold cO;dsimp only;rw [a2Y (by omega),E3,C9];unfold gL;rw [A5];refine(Jp h.1.2.1).mono λr1 h1=>⟨_,rfl,?_⟩;refine⟨⟨h.1.1,h1,Ww _,a3B _⟩,a3u h.2.1,⟨by simp,λk hk=>?_⟩,h.2.2.2⟩;rw [a39 hk];simp
theorem ZN {n:Nat} {x:pd} {p:Int} (h:kr n x) (hn:n<=400) (h1:1<=p) (h2:p<=15):Ok (gN x p) λr=>kr (n + 1) r.1:=by
 obtain⟨i,rfl⟩:∃ i:Nat,p=(i:Int) + 1:=⟨(p - 1).toNat,by omega⟩;have w:A9 ((i:Int) + 1 - 1)=(i:Int):=by rw [C8 (by omega) (by omega)];omega
 have hi:i < x.2.2.2.1.length:=by have:=h.2.2.1.1;omega
 have hk:=h.2.2.1.2 _ (a29 hi);have hl:=h.2.2.1.1;unfold gN;rw [w,a2S (by omega),C4,a2T,E0 hi,A5];refine(ZK h.1.2.2.1 (by omega) (by omega) _).mono λr1 h1=>?_;rw [A7];refine⟨λ_=>dH h _,λ_=>?_⟩;refine H2 (oN (by omega)) λr3=>?_;rw [a2S (yW (by omega)),C4,C4,a2S hi,C4,a2S (tn (by omega)),C4,a2S (tn (by omega)),C4,C4,C4];refine⟨_,rfl,h.1.mono (by omega),a3u h.2.1,⟨by rw [a3G];exact hl,λk hk'=>?_⟩,h.2.2.2⟩;rcases a3L hk' with hk' | rfl
 ·exact a3u (h.2.2.1.2 k hk')
 ·rw [a2V,a3f];omega
def OpV (op:P4):Prop:=op.2.2.1<=9223372036854775807/\op.2.2.2.1<=9223372036854775807/\(op.1=1\/op.1=2->op.2.2.2.2.length<=10000)/\op.2.2.2.2.length<=1000000
theorem AJ {n:Nat} {o:Option (pd × E7)} (h:Ok o λr=>kr n r.1):Ok (o.bind λr=>some (r.1,r.2)) λr=>kr n r.1:=by
 rw [A5];exact h.mono λr hr=>⟨_,rfl,hr⟩
theorem ZO {n:Nat} {x y:pd} {op:P4} {b:Bool} {rp:E7} (h:kr n x) (hn:n<=400) (ho:OpV op) (hb:b=true->1<=op.2.1/\op.2.1<=15):Ok (bW b x op y rp) λr=>kr (n + 1) r.1:=by
 obtain⟨o1,o2,o3,o4⟩:=ho;have chk':∀ p,op.2.2.2.2.length<=10000->Ok ((K9 x.1 op.2.2.2.2 p).bind λr=>some ((r.1,x.2),r.2)) λr=>kr (n + 1) r.1:=λp hp=>by
  rw [A5];refine(Wq h.1 (by omega) hp p).mono λr hr=>⟨_,rfl,hr,a3u h.2.1,⟨h.2.2.1.1,λl hl=>a3u (h.2.2.1.2 l hl)⟩,h.2.2.2⟩
 unfold bW;rw [A7];refine⟨λe=>chk' _ (o3 (.inl (a23 e))),λ_=>?_⟩;rw [A7];refine⟨λe=>?_,λ_=>?_⟩
 ·rw [A7];exact⟨λ_=>dH h _,λ_=>chk' _ (o3 (.inr (a23 e)))⟩
 rw [A7];refine⟨λ_=>?_,λ_=>?_⟩
 ·rw [A7];refine⟨λ_=>dH h _,λ_=>?_⟩;rw [A7];refine⟨λ_=>dH h _,λ_=>⟨_,rfl,(⟨h.1.1,h.1.2.1,h.1.2.2.1.mono (by omega),h.1.2.2.2⟩:StV 1 (n + 1) _),a3u h.2.1,⟨h.2.2.1.1,λl hl=>a3u (h.2.2.1.2 l hl)⟩,h.2.2.2⟩⟩
 rw [A7];refine⟨λ_=>AJ (Py h hn o1 o2),λ_=>?_⟩;rw [A7];refine⟨λ_=>?_,λ_=>?_⟩
 ·rw [A7];exact⟨λ_=>dH h _,λ_=>AJ (Jr h hn ⟨h.2.2.2.1.1,λb hb=>by have:=h.2.2.2.1.2 b hb;omega⟩)⟩
 rw [A7];refine⟨λ_=>AJ (Lf h o4),λ_=>?_⟩;rw [A7];refine⟨λ_=>?_,λ_=>?_⟩
 ·rw [A5];refine(EC h o4).mono λr10 h10=>?_;rw [A7];exact⟨λ_=>dH h _,λ_=>AJ (Jr h hn h10)⟩
 rw [A7];refine⟨λ_=>AJ (Wx h hn),λ_=>?_⟩;rw [A7];refine⟨λ_=>?_,λ_=>dH h _⟩;rw [A7];refine⟨λ_=>dH h _,λe=>?_⟩;have e:=hb (by simpa using e);exact AJ (ZN h hn e.1 e.2)
theorem a2P {n:Nat} {x:pd} {op:P4} (h:kr n x) (hn:n<=400) (ho:OpV op):Ok (jp x op) λr=>kr (n + 1) r.1:=by
 unfold jp;rw [A7];exact⟨λe=>ZO h hn ho (λe2=>⟨a23 e,a23 e2⟩),λ_=>ZO h hn ho (λe=>by cases e)⟩
end Go.Proofs.YtjbgdpjgfjnkbaaGreatDoor.Am
