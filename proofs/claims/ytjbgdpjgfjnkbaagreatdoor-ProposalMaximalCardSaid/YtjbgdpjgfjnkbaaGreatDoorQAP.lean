/- Texts laid together: PForm, PReadT, PCodec, PTxN. No conditions. -/
import Derived.Test.YtjbgdpjgfjnkbaaGreatDoorQAO
namespace Go.Proofs.YtjbgdpjgfjnkbaaGreatDoor.Am
open Go
def rh (n:Int) (s:List UInt8):List Fld:=if s=[] then [] else [⟨n,2,0,s⟩]
def ph (n:Int) (v:Int):List Fld:=if v=0 then [] else [⟨n,0,v.toNat,[]⟩]
def trF (x:A0):List Fld:=rh 1 x.1 ++ ph 2 x.2
def GB (x:A0):Fld:=⟨6,2,0,iJ (trF x)⟩
def hdF (t:C5):List Fld:=rh 1 t.1 ++ (ph 2 t.2.1 ++ (ph 3 t.2.2.1 ++ (ph 4 t.2.2.2.1 ++ rh 5 t.2.2.2.2.1)))
def txF (t:C5):List Fld:=hdF t ++ t.2.2.2.2.2.map GB
def TrS (x:A0):Prop:=x.1.length<=10000/\ri x.2
def TxS (t:C5):Prop:=t.1.length<=10000/\ri t.2.1/\ri t.2.2.1/\ri t.2.2.2.1/\t.2.2.2.2.1.length<=10000/\t.2.2.2.2.2.length<=2000/\∀ x ∈ t.2.2.2.2.2,TrS x
def CE (n:Nat) (f:Fld):Prop:=f.ok=true/\f.val < U64/\f.byt.length<=n
theorem Fld.enc_leS {f:Fld} {n:Nat} (h:CE n f) (hn:n<=1000000000):f.enc.length<=n + 20:=by
 obtain⟨h1,h2,h3⟩:=h;have t1:=nf f.tag (Fld.tag_lt f h1).1;have t2:=nf f.val h2;have t3:=nf f.byt.length (by unfold U64;omega);unfold Fld.enc;rw [a2V];split
 ·omega
 ·rw [a2V];omega
theorem xm (a b:List Fld):iJ (a ++ b)=iJ a ++ iJ b:=by unfold iJ;simp
theorem IT:iJ []=[]:=rfl
theorem xn (f:Fld):iJ [f]=f.enc:=by unfold iJ;simp
theorem OD {n:Int} {s:List UInt8} {m:Nat} (h1:1<=n) (h2:n<=100) (hs:s.length<=m):∀ f ∈ rh n s,CE m f:=by
 intro f hf;unfold rh at hf;split at hf
 ·cases hf
 ·simp only [a3o] at hf;subst hf;exact⟨by simp [Fld.ok];omega,by unfold U64;simp,hs⟩
theorem IU {n v:Int} {m:Nat} (h1:1<=n) (h2:n<=100) (hv:ri v):∀ f ∈ ph n v,CE m f:=by
 intro f hf;unfold ph at hf;unfold ri at hv;split at hf
 ·cases hf
 ·simp only [a3o] at hf;subst hf;exact⟨by simp [Fld.ok];omega,by unfold U64;simp only;omega,by simp⟩
theorem nQ (n:Int) (s:List UInt8):(rh n s).length<=1:=by unfold rh;split <;> simp
theorem oK (n v:Int):(ph n v).length<=1:=by unfold ph;split <;> simp
theorem KJ {m:Nat} {a b:List Fld} (ha:∀ f ∈ a,CE m f) (hb:∀ f ∈ b,CE m f):∀ f ∈ a ++ b,CE m f:=λf hf=>by
 rcases List.mem_append.1 hf with hf | hf
 ·exact ha f hf
 ·exact hb f hf
theorem GC {m:Nat} (hm:m<=1000000000):∀ {l:List Fld},(∀ f ∈ l,CE m f)->(iJ l).length<=l.length * (m + 20)
 | [],_=>by simp [iJ]
 | f :: l,h=>by
  have h1:=Fld.enc_leS (h f (by simp)) hm;have h2:=GC hm (l:=l) (λg hg=>h g (by simp [hg]));rw [ng,a2V,a27,a3D];omega
theorem OE {x:A0} (h:TrS x):∀ f ∈ trF x,CE 10000 f:=KJ (OD (by omega) (by omega) h.1) (IU (by omega) (by omega) h.2)
theorem Uh {x:A0} (h:TrS x):(iJ (trF x)).length<=20040:=by
 have h1:=GC (by omega) (OE h);have h2:=nQ 1 x.1;have h3:=oK 2 x.2;unfold trF at h1 ⊢;rw [a2V] at h1;omega
theorem OF {x:A0} (h:TrS x):CE 20040 (GB x):=⟨by simp [GB,Fld.ok],by unfold U64;simp [GB],Uh h⟩
theorem Zp {t:C5} (h:TxS t):∀ f ∈ hdF t,CE 10000 f:=by
 obtain⟨h1,h2,h3,h4,h5,_⟩:=h;exact KJ (OD (by omega) (by omega) h1) (KJ (IU (by omega) (by omega) h2) (KJ (IU (by omega) (by omega) h3) (KJ (IU (by omega) (by omega) h4) (OD (by omega) (by omega) h5))))
theorem OG (t:C5):(hdF t).length<=5:=by
 have h1:=nQ 1 t.1;have h2:=oK 2 t.2.1;have h3:=oK 3 t.2.2.1;have h4:=oK 4 t.2.2.2.1;have h5:=nQ 5 t.2.2.2.2.1;unfold hdF;simp only [a2V];omega
theorem Zq {t:C5} (h:TxS t):(iJ (hdF t)).length<=50100:=by
 have h1:=GC (by omega) (Zp h);have h2:=OG t;omega
theorem CE.mono {m n:Nat} (h:m<=n) {f:Fld} (hf:CE m f):CE n f:=⟨hf.1,hf.2.1,by have:=hf.2.2;omega⟩
theorem Zr {t:C5} (h:TxS t):∀ f ∈ txF t,CE 20040 f:=by
 refine KJ (λf hf=>(Zp h f hf).mono (by omega)) λf hf=>?_;obtain⟨x,hx,rfl⟩:=List.mem_map.1 hf;exact OF (h.2.2.2.2.2.2 x hx)
theorem GD {b s:List UInt8} {n:Int} (h1:1<=n) (h2:n<=100) (hb:b.length<=10000000000) (hs:s.length<=1000000):R4 b n s=some (b ++ iJ (rh n s)):=by
 rw [<-J3];simp only [R4,A7,D4,A5,A4,a2W,a2U];refine⟨λh=>?_,λh=>⟨by unfold maxLen;omega,?_⟩⟩
 ·unfold rh;rw [a28 h,IT,a3b]
 ·have hf:CE 1000000 (⟨n,2,0,s⟩:Fld):=⟨by simp [Fld.ok];omega,by unfold U64;simp,hs⟩;have hw:=vW [] ⟨n,2,0,s⟩ hf.1 hf.2.1 (by simp) (by simp only;omega);have hle:=Fld.enc_leS hf (by omega);have hw':cB [] (n,2,(0:Int),s)=some ([] ++ (⟨n,2,0,s⟩:Fld).enc,0):=hw;rw [hw',A4,a3E];dsimp only;refine⟨⟨by unfold LIM;omega,by unfold LEN;omega⟩,?_⟩;unfold rh;rw [a25 h,xn]
theorem Cq {b:List UInt8} {n v:Int} (h1:1<=n) (h2:n<=100) (hb:b.length<=10000000000) (hv:ri v):L8 b n v=some (b ++ iJ (ph n v)):=by
 rw [<-J3];unfold ri at hv;simp only [L8,A7,D4,A5,A4,a2W,a2U];refine⟨λh=>?_,λh=>?_⟩
 ·unfold ph;rw [a28 h,IT,a3b]
 ·have hf:CE 0 (⟨n,0,v.toNat,[]⟩:Fld):=⟨by simp [Fld.ok];omega,by unfold U64;simp only;omega,by simp⟩;have hw:=vW [] ⟨n,0,v.toNat,[]⟩ hf.1 hf.2.1 (by simp) (by simp);have hle:=Fld.enc_leS hf (by omega);have hw':cB [] (n,0,v,[])=some ([] ++ (⟨n,0,v.toNat,[]⟩:Fld).enc,0):=by
   rw [<-hw];unfold toF;simp only;rw [show((v.toNat:Nat):Int)=v by omega]
  rw [hw',A4,a3E];dsimp only;refine⟨⟨by unfold LIM;omega,by unfold LEN;omega⟩,?_⟩;unfold ph;rw [a25 h,xn]
theorem Wa {b s:List UInt8} {n:Int} (h1:1<=n) (h2:n<=100) (hb:b.length<=10000000000) (hs:s.length<=1000000):bf b n s=some (b ++ (⟨n,2,0,s⟩:Fld).enc):=by
 rw [<-J3];have hf:CE 1000000 (⟨n,2,0,s⟩:Fld):=⟨by simp [Fld.ok];omega,by unfold U64;simp,hs⟩;have hw:=vW [] ⟨n,2,0,s⟩ hf.1 hf.2.1 (by simp) (by simp only;omega);have hle:=Fld.enc_leS hf (by omega);have hw':cB [] (n,2,(0:Int),s)=some ([] ++ (⟨n,2,0,s⟩:Fld).enc,0):=hw;simp only [bf,hw',D4,A5,A4,a2W,a3E];exact⟨⟨by unfold LIM;omega,by unfold LEN;omega⟩,trivial⟩
theorem KM {t:C5} (h:TxS t):oC t=some (iJ (txF t)):=by
 rw [<-J3];have hh:=h;obtain⟨h1,h2,h3,h4,h5,h6,h7⟩:=h;have hle:=Zq hh;have L:∀ {a b:List UInt8} {n:Nat},(a ++ b).length<=n->a.length<=n:=λh=>by rw [a2V] at h;omega
 have e0:iJ (hdF t)=((((iJ (rh 1 t.1) ++ iJ (ph 2 t.2.1)) ++ iJ (ph 3 t.2.2.1)) ++ iJ (ph 4 t.2.2.2.1)) ++ iJ (rh 5 t.2.2.2.2.1)):=by
  unfold hdF;simp only [xm,a3c]
 rw [e0] at hle;have w1:=GD (b:=[]) (n:=1) (s:=t.1) (by omega) (by omega) (by simp) (by omega);rw [a3E] at w1;have w2:=Cq (b:=iJ (rh 1 t.1)) (n:=2) (by omega) (by omega) (by have:=L (L (L (L hle)));omega) h2;have w3:=Cq (b:=iJ (rh 1 t.1) ++ iJ (ph 2 t.2.1)) (n:=3) (by omega) (by omega) (by have:=L (L (L hle));omega) h3;have w4:=Cq (b:=(iJ (rh 1 t.1) ++ iJ (ph 2 t.2.1)) ++ iJ (ph 3 t.2.2.1)) (n:=4) (by omega) (by omega) (by have:=L (L hle);omega) h4;have w5:=GD (b:=((iJ (rh 1 t.1) ++ iJ (ph 2 t.2.1)) ++ iJ (ph 3 t.2.2.1)) ++ iJ (ph 4 t.2.2.2.1)) (n:=5) (s:=t.2.2.2.2.1) (by omega) (by omega) (by have:=L hle;omega) (by omega);unfold oC;rw [w1,a2X,w2,a2X,w3,a2X,w4,a2X,w5,a2X,<-e0];rw [<-e0] at hle;unfold qN;refine D8 t.2.2.2.2.2 (λi (b:List UInt8)=>(t.2.2.2.2.2,((t.2.2.2.2.2.length:Nat):Int),((i:Nat):Int),b)) (λi b=>i<=t.2.2.2.2.2.length/\b=iJ (hdF t ++ (t.2.2.2.2.2.take i).map GB)/\b.length<=50100 + i * 20060) (λi b hi hv=>?_) (λb hv=>?_) ⟨a3B _,by simp,by omega⟩ (by omega)
 ·obtain⟨v1,v2,v3⟩:=hv;have hx:=h7 _ (a29 hi);have htl:=Uh hx;have q1:=GD (b:=[]) (n:=1) (s:=(t.2.2.2.2.2[i]).1) (by omega) (by omega) (by simp) (by have:=hx.1;omega);rw [a3E] at q1;have e1:iJ (trF t.2.2.2.2.2[i])=iJ (rh 1 (t.2.2.2.2.2[i]).1) ++ iJ (ph 2 (t.2.2.2.2.2[i]).2):=by unfold trF;rw [xm]
  have q2:=Cq (b:=iJ (rh 1 (t.2.2.2.2.2[i]).1)) (n:=2) (by omega) (by omega) (by rw [e1] at htl;have:=L htl;omega) hx.2;rw [<-e1] at q2;have q3:=Wa (b:=b) (n:=6) (s:=iJ (trF t.2.2.2.2.2[i])) (by omega) (by omega) (by omega) (by omega);have q4:=Fld.enc_leS (OF hx) (by omega);simp only [lj,A7,D4,A5,A4,B5,B8,a2W,a2U,a2T,E0 hi,q1,q2,q3,D2 (i:=i) (by omega)];refine⟨λ_=>⟨by omega,_,rfl,by omega,?_,?_⟩,λhc=>absurd hc (by omega)⟩
  ·rw [I2 hi,a3g,<-a3c,xm,<-v2,a3h,a3K,xn];rfl
  ·rw [a2V,a3D];have q4':(⟨6,2,0,iJ (trF t.2.2.2.2.2[i])⟩:Fld).enc.length<=20040 + 20:=q4;omega
 ·obtain⟨v1,v2,v3⟩:=hv;simp only [lj,A7,D4,A5,A4,B5,B8,a2W,a2U,a2T];refine⟨λhc=>absurd hc (by omega),λ_=>?_⟩;rw [v2,a3i];rfl
theorem Cr {l:List A6} {n:Int} {s:List UInt8} (hl:l.length<=100000) (hs:s.length<=1000000):U6 l n s=some (l ++ (rh n s).map toF):=by
 rw [<-J3];simp only [U6,A7,D4,A4,a2W,a2U];refine⟨λh=>?_,λh=>⟨by unfold maxLen;omega,⟨by unfold LIM;omega,by unfold LEN;omega⟩,?_⟩⟩
 ·unfold rh;rw [a28 h,a3K,a3b]
 ·unfold rh;rw [a25 h];rfl
theorem pS {l:List A6} {n v:Int} (hl:l.length<=100000) (hv:ri v):L4 l n v=some (l ++ (ph n v).map toF):=by
 rw [<-J3];unfold ri at hv;simp only [L4,A7,D4,A4,a2W,a2U];refine⟨λh=>?_,λh=>⟨⟨by unfold LIM;omega,by unfold LEN;omega⟩,?_⟩⟩
 ·unfold ph;rw [a28 h,a3K,a3b]
 ·unfold ph;rw [a25 h];simp only [a3h,a3K,toF];rw [show((v.toNat:Nat):Int)=v by omega]
theorem vY {l:List Fld} {m:Nat} (hm:m<=1000000) (h:∀ f ∈ l,CE m f) (hl:l.length<=10000):E5 (l.map toF)=some (iJ l):=by
 rw [<-J3];unfold E5 eP;have hlen:(l.map toF).length=l.length:=a3d ..;refine D8 (l.map toF) (λi (b:List UInt8)=>(l.map toF,(((l.map toF).length:Nat):Int),((i:Nat):Int),b)) (λi b=>i<=l.length/\b=iJ (l.take i)/\b.length<=i * 1000020) (λi b hi hv=>?_) (λb hv=>?_) ⟨a3B _,by simp [iJ],by simp⟩ (by omega)
 ·obtain⟨v1,v2,v3⟩:=hv;have hi':i < l.length:=by omega
  have hf:=h _ (a29 hi');have q:=OB b l[i] hf.1 hf.2.1 (by omega) (by have:=hf.2.2;omega);have q2:=Fld.enc_leS hf (by omega);have q3:List.getD (l.map toF) i E4=toF l[i]:=by rw [E0 hi,a4e]
  simp only [O3,A7,D4,A5,A4,B5,B8,a2W,a2U,a2T,q3,q,D2 (i:=i) (by omega)];refine⟨λ_=>⟨by omega,_,rfl,by omega,?_,?_⟩,λhc=>absurd hc (by omega)⟩
  ·rw [I2 hi',xm,<-v2,xn]
  ·rw [a2V,a3D];omega
 ·obtain⟨v1,v2,v3⟩:=hv;simp only [O3,A7,D4,A5,A4,B5,B8,a2W,a2U,a2T];refine⟨λhc=>absurd hc (by omega),λ_=>?_⟩;rw [v2,hlen,a3i]
theorem OH {t:C5} (h:TxS t):cS t=some (iJ (txF t)):=by
 rw [<-J3];have hh:=h;obtain⟨h1,h2,h3,h4,h5,h6,h7⟩:=h;have hn:=OG t;have e0:(hdF t).map toF=(((((rh 1 t.1).map toF ++ (ph 2 t.2.1).map toF) ++ (ph 3 t.2.2.1).map toF) ++ (ph 4 t.2.2.2.1).map toF) ++ (rh 5 t.2.2.2.2.1).map toF):=by
  unfold hdF;simp only [a3g,a3c]
 have hle:(((((rh 1 t.1).map toF ++ (ph 2 t.2.1).map toF) ++ (ph 3 t.2.2.1).map toF) ++ (ph 4 t.2.2.2.1).map toF) ++ (rh 5 t.2.2.2.2.1).map toF).length<=5:=by rw [<-e0,a3d];exact hn
 have L:∀ {a b:List A6} {n:Nat},(a ++ b).length<=n->a.length<=n:=λh=>by rw [a2V] at h;omega
 have w1:=Cr (l:=[]) (n:=1) (s:=t.1) (by simp) (by omega);rw [a3E] at w1;have w2:=pS (l:=(rh 1 t.1).map toF) (n:=2) (by have:=L (L (L (L hle)));omega) h2;have w3:=pS (l:=(rh 1 t.1).map toF ++ (ph 2 t.2.1).map toF) (n:=3) (by have:=L (L (L hle));omega) h3;have w4:=pS (l:=((rh 1 t.1).map toF ++ (ph 2 t.2.1).map toF) ++ (ph 3 t.2.2.1).map toF) (n:=4) (by have:=L (L hle);omega) h4;have w5:=Cr (l:=(((rh 1 t.1).map toF ++ (ph 2 t.2.1).map toF) ++ (ph 3 t.2.2.1).map toF) ++ (ph 4 t.2.2.2.1).map toF) (n:=5) (s:=t.2.2.2.2.1) (by have:=L hle;omega) (by omega);unfold cS;rw [w1,a2X,w2,a2X,w3,a2X,w4,a2X,w5,a2X,<-e0];unfold kY;refine D8 t.2.2.2.2.2 (λi (b:List A6)=>(t.2.2.2.2.2,((t.2.2.2.2.2.length:Nat):Int),((i:Nat):Int),b)) (λi b=>i<=t.2.2.2.2.2.length/\b=(hdF t ++ (t.2.2.2.2.2.take i).map GB).map toF) (λi b hi hv=>?_) (λb hv=>?_) ⟨a3B _,by simp⟩ (by omega)
 ·obtain⟨v1,v2⟩:=hv;have hx:=h7 _ (a29 hi);have q1:=Cr (l:=[]) (n:=1) (s:=(t.2.2.2.2.2[i]).1) (by simp) (by have:=hx.1;omega);rw [a3E] at q1;have q2:=pS (l:=(rh 1 (t.2.2.2.2.2[i]).1).map toF) (n:=2) (by rw [a3d];have:=nQ 1 (t.2.2.2.2.2[i]).1;omega) hx.2;rw [<-a3g] at q2;have q3:=vY (l:=trF t.2.2.2.2.2[i]) (by omega) (OE hx) (by unfold trF;rw [a2V];have:=nQ 1 (t.2.2.2.2.2[i]).1;have:=oK 2 (t.2.2.2.2.2[i]).2;omega);have q3':E5 (List.map toF (rh 1 (t.2.2.2.2.2[i]).1 ++ ph 2 (t.2.2.2.2.2[i]).2))=some (iJ (trF t.2.2.2.2.2[i])):=q3;have hbl:b.length<=5 + i:=by
   rw [v2,a3d,a2V,a3d,a26];omega
  simp only [dr,A7,D4,A5,A4,C9,B5,B8,a2W,a2U,a2T,E0 hi,q1,q2,q3',D2 (i:=i) (by omega)];refine⟨λ_=>⟨by omega,⟨by unfold LIM;omega,by unfold LEN;omega⟩,_,rfl,by omega,?_⟩,λhc=>absurd hc (by omega)⟩;rw [I2 hi,a3g (f:=GB),<-a3c,a3g (f:=toF),<-v2];rfl
 ·obtain⟨v1,v2⟩:=hv;rw [a3i] at v2;have q:=vY (l:=txF t) (by omega) (Zr hh) (by unfold txF;rw [a2V,a3d];omega);have q':E5 b=some (iJ (txF t)):=by rw [v2];exact q
  simp only [dr,A7,D4,A5,A4,C9,B5,B8,a2W,a2U,a2T,q'];exact⟨λhc=>absurd hc (by omega),λ_=>trivial⟩
def EJ (x:A0) (f:Fld):A0:=if f.num=1 then(f.byt,x.2) else if f.num=2 then(x.1,((f.val:Nat):Int)) else x
def wN (b:List UInt8):A0:=(nr b).1.foldl EJ ([],0)
def sd (t:C5) (f:Fld):C5:=
 if f.num=1 then(f.byt,t.2) else if f.num=2 then(t.1,((f.val:Nat):Int),t.2.2) else if f.num=3 then(t.1,t.2.1,((f.val:Nat):Int),t.2.2.2)
 else if f.num=4 then(t.1,t.2.1,t.2.2.1,((f.val:Nat):Int),t.2.2.2.2) else if f.num=5 then(t.1,t.2.1,t.2.2.1,t.2.2.2.1,f.byt,t.2.2.2.2.2)
 else if f.num=6 then(t.1,t.2.1,t.2.2.1,t.2.2.2.1,t.2.2.2.2.1,t.2.2.2.2.2 ++ [wN f.byt]) else t
def jZ:C5:=([],0,0,0,[],[])
def Az (l:List Fld):C5:=l.foldl sd jZ
theorem sE (b:List UInt8):(nr b).1.length<=1024:=by
 have h:=IL b;by_cases h0:(nr b).2.2=0
 ·exact(h.1 h0).2.2.2
 ·rw [(h.2 h0).1];simp
theorem GE (b:List UInt8) (hb:b.length<=1000000000000):li b=some (wN b):=by
 rw [<-J3];have hl:=sE b;unfold li wN;rw [oi b hb,a2X];generalize (nr b).1=l at *
 unfold px;have hm:(l.map toF).length=l.length:=a3d ..;refine D8 (l.map toF) (λi (x:A0)=>((((l.map toF).length:Nat):Int),((i:Nat):Int),(([],(0:Int)):A0),x,l.map toF)) (λi x=>(l.drop i).foldl EJ x=l.foldl EJ ([],0)) (λi x hi hv=>?_) (λx hv=>?_) rfl (by omega)
 ·have hi':i < l.length:=by omega
  have q3:List.getD (l.map toF) i E4=toF l[i]:=by rw [E0 hi,a4e]
  have qn:(toF l[i]).1=l[i].num:=rfl;rw [a3M hi',a4b] at hv;simp only [kb,A7,D4,A4,B5,B8,a2W,a2U,a2T,q3,qn,D2 (i:=i) (by omega)];refine⟨λ_=>⟨by omega,by omega,λh1=>⟨_,rfl,?_⟩,λh1=>⟨λh2=>⟨_,rfl,?_⟩,λh2=>⟨_,rfl,?_⟩⟩⟩,λhc=>absurd hc (by omega)⟩
  ·rw [<-hv];congr 1;unfold EJ;rw [a28 h1];rfl
  ·rw [<-hv];congr 1;unfold EJ;rw [a25 h1,a28 h2];rfl
  ·rw [<-hv];congr 1;unfold EJ;rw [a25 h1,a25 h2]
 ·simp only [kb,A7,D4,A4,B5,B8,a2W,a2U,a2T];refine⟨λhc=>absurd hc (by omega),λ_=>?_⟩;rw [hm,a4g] at hv;exact hv
theorem Cs (l:List Fld) (hl:l.length<=2000) (hb:∀ f ∈ l,f.byt.length<=1000000000000):ve (l.map toF)=some (Az l):=by
 rw [<-J3];have hm:(l.map toF).length=l.length:=a3d ..;unfold ve vd;refine D8 (l.map toF) (λi (t:C5)=>(l.map toF,(((l.map toF).length:Nat):Int),((i:Nat):Int),([]:List UInt8),(0:Int),(0:Int),(0:Int),([]:List UInt8),t.1,t.2.1,t.2.2.1,t.2.2.2.1,t.2.2.2.2.1,t.2.2.2.2.2)) (λi t=>(l.drop i).foldl sd t=Az l/\t.2.2.2.2.2.length<=i) (λi t hi hv=>?_) (λt hv=>?_) (b0:=jZ) ⟨rfl,by simp [jZ]⟩ (by omega)
 ·obtain⟨hv,hlt⟩:=hv;have hi':i < l.length:=by omega
  have q3:List.getD (l.map toF) i E4=toF l[i]:=by rw [E0 hi,a4e]
  have ht:=GE l[i].byt (hb _ (a29 hi'));have ht':li (toF l[i]).2.2.2=some (wN l[i].byt):=ht;have qn:(toF l[i]).1=l[i].num:=rfl;rw [a3M hi',a4b] at hv;simp only [oz,A7,D4,A5,A4,B5,B8,a2W,a2U,a2T,q3,D2 (i:=i) (by omega),ht',qn];refine⟨λ_=>⟨by omega,λh1=>?_,λh1=>⟨λh2=>?_,λh2=>⟨λh3=>?_,λh3=>⟨λh4=>?_,λh4=>⟨λh5=>?_,λh5=>⟨λh6=>⟨⟨by unfold LIM;omega,by unfold LEN;omega⟩,?_⟩,λh6=>?_⟩⟩⟩⟩⟩⟩,λhc=>absurd hc (by omega)⟩
  ·refine⟨sd t l[i],?_,hv,?_⟩ <;> (unfold sd;rw [a28 h1])
   ·rfl
   ·exact a3u hlt
  ·refine⟨sd t l[i],?_,hv,?_⟩ <;> (unfold sd;rw [a25 h1,a28 h2])
   ·rfl
   ·exact a3u hlt
  ·refine⟨sd t l[i],?_,hv,?_⟩ <;> (unfold sd;rw [a25 h1,a25 h2,a28 h3])
   ·rfl
   ·exact a3u hlt
  ·refine⟨sd t l[i],?_,hv,?_⟩ <;> (unfold sd;rw [a25 h1,a25 h2,a25 h3,a28 h4])
   ·rfl
   ·exact a3u hlt
  ·refine⟨sd t l[i],?_,hv,?_⟩ <;> (unfold sd;rw [a25 h1,a25 h2,a25 h3,a25 h4,a28 h5])
   ·rfl
   ·exact a3u hlt
  ·refine⟨sd t l[i],?_,hv,?_⟩ <;> (unfold sd;rw [a25 h1,a25 h2,a25 h3,a25 h4,a25 h5,a28 h6]);simp only [a2V,a27,a3l];omega
  ·refine⟨sd t l[i],?_,hv,?_⟩ <;> (unfold sd;rw [a25 h1,a25 h2,a25 h3,a25 h4,a25 h5,a25 h6]);exact a3u hlt
 ·obtain⟨hv,_⟩:=hv;simp only [oz,A7,D4,A5,A4,B5,B8,a2W,a2U,a2T];refine⟨λhc=>absurd hc (by omega),λ_=>?_⟩;rw [hm,a4g] at hv;exact hv
theorem Se {v:Int} (h:ri v):((v.toNat:Nat):Int)=v:=by unfold ri at h;omega
theorem OI {x:A0} (h:TrS x):wN (iJ (trF x))=x:=by
 have hs:=OE h;have hl:(trF x).length<=2:=by unfold trF;rw [a2V];have:=nQ 1 x.1;have:=oK 2 x.2;omega
 unfold wN;rw [yM _ (by omega) (λf hf=>⟨(hs f hf).1,(hs f hf).2.1,by have:=(hs f hf).2.2;unfold U64;omega⟩)];obtain⟨s,v⟩:=x;have hv:=Se h.2;simp only at hv;unfold trF rh ph;by_cases h1:s=[] <;> by_cases h2:v=0 <;> simp [h1,h2,EJ,hv]
theorem Eg {s:List UInt8}:∀ (f p k:Nat),uv s f p k=true->k<=64/\s.length<=p + 4 * (64 - k)
 | 0,p,k,h=>by simp [uv] at h
 | f + 1,p,k,h=>by
  unfold uv at h;by_cases h1:p < s.length
  ·rw [a28 h1] at h;by_cases h2:pc s p=0
   ·rw [a28 h2] at h;cases h
   ·rw [a25 h2] at h;have ih:=Eg f _ _ h;have hw:=Cp s p;omega
  ·rw [a25 h1,a2W] at h;omega
theorem Sf {s:List UInt8} (h:tF s=true):s.length<=260:=by
 have:=(Eg _ _ _ h).2;omega
theorem IV {s:List UInt8} (h:ap s=true):s.length<=20:=by
 unfold ap at h;rw [a24,a2W] at h;exact h.2.2
def TxN (t:C5):Prop:=ri t.2.1/\ri t.2.2.1/\ri t.2.2.2.1/\∀ x ∈ t.2.2.2.2.2,ri x.2
theorem wA:∀ {l:List A0},oJ l=0->∀ x ∈ l,x.1.length<=20
 | x :: l,h,y,hy=>by
  unfold oJ at h;by_cases h1:ap x.1=true
  ·rw [a28 h1] at h;by_cases h2:x.2=0
   ·rw [a28 h2] at h;cases h
   ·rw [a25 h2] at h;rcases List.mem_cons.1 hy with rfl | hy
    ·exact IV h1
    ·exact wA h y hy
  ·rw [a25 h1] at h;cases h
theorem Wb {t:C5} (h:kq t=0) (hn:TxN t):TxS t/\t.2.2.2.2.2.length<=16:=by
 obtain⟨n1,n2,n3,n4⟩:=hn;unfold kq at h;by_cases h1:ap t.1=true
 ·rw [a28 h1] at h;by_cases h2:t.2.2.1=0
  ·rw [a28 h2] at h;cases h
  ·rw [a25 h2] at h;by_cases h3:tF t.2.2.2.2.1=true
   ·rw [a28 h3] at h;by_cases h4:t.2.2.2.2.2.length=0
    ·rw [a28 h4] at h;cases h
    ·rw [a25 h4] at h;by_cases h5:16 < t.2.2.2.2.2.length
     ·rw [a28 h5] at h;cases h
     ·rw [a25 h5] at h;have q1:=IV h1;have q2:=Sf h3;exact⟨⟨by omega,n1,n2,n3,by omega,by omega,λx hx=>⟨by have:=wA h x hx;omega,n4 x hx⟩⟩,by omega⟩
   ·rw [a25 h3] at h;cases h
 ·rw [a25 h1] at h;cases h
def Zs (t:C5):List UInt8 × Int:=if kq t=0 then(if 4096 < (iJ (txF t)).length then([],3) else(iJ (txF t),0)) else([],kq t)
theorem KN {t:C5} (hb:TxB t) (hn:TxN t):W8 t=some (Zs t):=by
 rw [<-J3];unfold W8 Zs;rw [Ef hb,a2X];by_cases h:kq t=0
 ·have hs:=(Wb h hn).1;rw [a28 h];simp only [h,OH hs,A7,A5,A4,a2W,a2U,a20,a2Z];refine⟨λh=>absurd trivial h,λ_=>⟨λh1=>?_,λh1=>?_⟩⟩
  ·rw [a28 (by omega)]
  ·rw [a25 (by omega)]
 ·rw [a25 h];simp only [A7,A5,A4,a2W,a2U,a20,a2Z];exact⟨λ_=>trivial,λe=>absurd e h⟩
theorem TxM.n {t:C5} (h:TxM t):TxN t:=by
 obtain⟨h1,h2,h3,h4,h5,h6,h7⟩:=h;exact⟨h2,⟨by omega,by omega⟩,h4,λx hx=>by have:=(h7 x hx).2;exact⟨by omega,by omega⟩⟩
end Go.Proofs.YtjbgdpjgfjnkbaaGreatDoor.Am
