/- Texts laid together: PTx, PStep. No conditions. -/
import Derived.Test.YtjbgdpjgfjnkbaaGreatDoorQAS
namespace Go.Proofs.YtjbgdpjgfjnkbaaGreatDoor.Am
open Go
def a0g (n:Int):Int:=D7 (min (max n 0) 1073741824)
def OM (a b:Int):Int:=D7 (D7 (50 + D7 (1 * a0g a)) + D7 (20 * a0g b))
theorem ON (a b:Int):vP a b=some (OM a b):=rfl
theorem Sm (a b:Int):gp a b=some (OM a b):=by
 have h:∀ n:Int,Z7 n=some (a0g n):=λn=>by
  unfold Z7 a0g;rw [show max 0 (min n 1073741824)=min (max n 0) 1073741824 by omega]
 unfold gp;rw [h,a2X,h,a2X];rfl
def zC (a p:Int):Int × Bool:=Zh a.toNat p.toNat
theorem OO {a p:Int} (ha:okU a) (hp:okU p):sD a p=some (zC a p):=by
 obtain⟨x,rfl⟩:=a3P ha.1;obtain⟨y,rfl⟩:=a3P hp.1;have h1:=ha.2;have h2:=hp.2;unfold sD zC;rw [RT (by omega) (by omega)];rfl
theorem Sn {a p:Int} (ha:okU a) (hp:okU p):gq a p=some (zC a p):=by
 obtain⟨x,rfl⟩:=a3P ha.1;obtain⟨y,rfl⟩:=a3P hp.1;have h1:=ha.2;have h2:=hp.2;unfold gq zC;rw [VP (by omega) (by omega)];rfl
def GG (fee gas:Int):Int:=Ot fee.toNat gas.toNat
theorem KS {a p:Int} (ha:okU a) (hp:okU p):jN a p=some (GG a p):=by
 obtain⟨x,rfl⟩:=a3P ha.1;obtain⟨y,rfl⟩:=a3P hp.1;have h1:=ha.2;have h2:=hp.2;unfold GG;rw [Ou (by omega) (by omega)];rfl
theorem OP {a p:Int} (ha:okU a) (hp:okU p):W9 a p=some (GG a p):=by
 obtain⟨x,rfl⟩:=a3P ha.1;obtain⟨y,rfl⟩:=a3P hp.1;have h1:=ha.2;have h2:=hp.2;unfold GG;rw [RW (by omega) (by omega)];rfl
theorem OQ {α β:Type} {eq:α->α->Bool} (he:Og eq) {k:α}:∀ {l:List (α × β)} {i:Nat},Dq eq k l=some i->∃ h:i < l.length,l[i].1=k
 | [],i,h=>by cases h
 | p :: l,i,h=>by
  unfold Dq at h;by_cases hp:eq k p.1=true
  ·rw [a28 hp] at h;cases h;exact⟨by simp,((he _ _).1 hp).symm⟩
  ·rw [a25 hp] at h;cases hm:Dq eq k l with
   | none=>rw [hm] at h;cases h
   | some j=>
    rw [hm] at h;cases h;obtain⟨h1,h2⟩:=OQ he hm;exact⟨by simp only [a27];omega,by simpa using h2⟩
theorem Wf {l:List (List UInt8 × Vector UInt8 0)} {k:List UInt8} {v:Vector UInt8 0} (h:k ∈ ry l):TJ zf k v l=l:=by
 have hs:=(ut Ck k l).2 h;cases hm:Dq zf k l with
 | none=>rw [hm] at hs;cases hs
 | some i=>
  obtain⟨h1,h2⟩:=OQ Ck hm;unfold TJ;rw [hm];show l.set i (k,v)=l;have hv:v=l[i].2:=Vector.ext λj hj=>by omega
  rw [<-h2,hv];exact List.set_getElem_self h1
theorem KT {g:o8} {t:C5} {P:List o6} (hs:Srt g.1) (hl:g.1.length<=1000000) (ht:t.2.2.2.2.2.length<=2000) (hP:∀ n,n ∈ I4 P ↔ n ∈ I4 g.1) (hPl:P.length=g.1.length):nL g t=some (((((t.2.2.2.2.2.foldl aS P).length - g.1.length:Nat)):Nat):Int):=by
 rw [<-J3];unfold nL py;refine D8 t.2.2.2.2.2 (λi (m:List (List UInt8 × Vector UInt8 0))=>(t.2.2.2.2.2,((t.2.2.2.2.2.length:Nat):Int),((i:Nat):Int),g,m)) (λi m=>(∀ n,n ∈ ry m ↔ n ∈ I4 ((t.2.2.2.2.2.take i).foldl aS P)/\n ∉ I4 g.1)/\m.length + g.1.length=((t.2.2.2.2.2.take i).foldl aS P).length/\∀ n ∈ I4 g.1,n ∈ I4 ((t.2.2.2.2.2.take i).foldl aS P)) (λi m hi hv=>?_) (λm hv=>?_) (b0:=[]) ⟨λn=>⟨λh=>(by cases h),λh=>absurd ((hP n).1 h.1) h.2⟩,by rw [a31,List.foldl_nil,hPl,a3l,a3z],λn h=>(hP n).2 h⟩ (by omega)
 ·obtain⟨hv1,hv2,hv3⟩:=hv;unfold ke;dsimp only;rw [a2S (by omega:(i:Int) < ((t.2.2.2.2.2.length:Nat):Int)),E8,a2S (by omega:(0:Int)<=(i:Int)/\(i:Int) < ((t.2.2.2.2.2.length:Nat):Int)),C4,a2T,E0 hi,sG (g:=g) hs (by omega),a2X,yP hi];generalize t.2.2.2.2.2[i]=x;generalize (t.2.2.2.2.2.take i).foldl aS P=Q at hv1 hv2 hv3;dsimp only;have hsub:∀ n ∈ I4 g.1,n ∈ I4 (aS Q x):=λn h=>(kP Q x n).2 (.inr (hv3 n h));by_cases hx:H7 g.1 x.1 < g.1.length
  ·have hxn:=jr.1 hx;rw [a2S hx,a3m,E3,A4,B5,D2 (by omega)];refine⟨_,rfl,λn=>?_,?_,hsub⟩
   ·rw [hv1 n,kP];refine⟨λh=>⟨.inr h.1,h.2⟩,λh=>⟨?_,h.2⟩⟩;rcases h.1 with rfl | h1
    ·exact absurd hxn h.2
    ·exact h1
   ·rw [vz,a28 (jr.2 (hv3 _ hxn))];exact hv2
  ·have hxn:x.1 ∉ I4 g.1:=λh=>hx (jr.2 h);rw [a2Y hx,a3r,E8,A4,B5,D2 (by omega)];refine⟨_,rfl,?_⟩;by_cases hq:x.1 ∈ I4 Q
   ·rw [Wf ((hv1 x.1).2 ⟨hq,hxn⟩),vz,a28 (jr.2 hq)];refine⟨λn=>?_,hv2,hsub⟩;rw [hv1 n,kP];refine⟨λh=>⟨.inr h.1,h.2⟩,λh=>⟨?_,h.2⟩⟩;rcases h.1 with rfl | h1
    ·exact hq
    ·exact h1
   ·rw [RN Ck (λh=>hq ((hv1 x.1).1 h).1),vz,a25 (λh=>hq (jr.1 h)),a2V];refine⟨λn=>?_,by simp only [a27,a3l];omega,hsub⟩;have hk:n ∈ ry (m ++ [(x.1,Vector.replicate 0 (0:UInt8))]) ↔ n ∈ ry m\/n=x.1:=by
     unfold ry;rw [a3g,a4E,a3h,a3K,a3o]
    rw [hk,hv1 n,kP];constructor
    ·rintro(h | rfl)
     ·exact⟨.inr h.1,h.2⟩
     ·exact⟨.inl rfl,hxn⟩
    ·rintro⟨rfl | h,h2⟩
     ·exact .inr rfl
     ·exact .inl ⟨h,h2⟩
 ·rw [a3i] at hv;unfold ke;dsimp only;rw [a2Y (by omega),E3,A4,B8,<-hv.2.1,a5r]
theorem sH {l:List o6} {n:List UInt8} {sum:Int} (h:H7 l n < l.length):I4 (iI l n sum)=I4 l:=by
 rw [mD h];exact El (a:=(l[H7 l n].1,D7 (l[H7 l n].2.1 - sum),D7 (l[H7 l n].2.2 + 1))) h rfl
theorem Wg (l:List TR) (a:List o6):a.length<=(l.foldl aS a).length:=by
 induction l generalizing a with
 | nil=>simp
 | cons x l ih=>
  have h1:=ih (aS a x);have h2:=vz a x;rw [a4b];split at h2 <;> omega
def Cx (g:o8) (p:Int) (t:C5) (n:Int):Int:=
 if ¬ H7 g.1 t.1 < g.1.length then 13
 else if(g.1.getD (H7 g.1 t.1) B0).2.2 ≠ t.2.1 then 14
 else if t.2.1=18446744073709551615 then 6
 else if t.2.2.1 < OM n ((t.2.2.2.2.2.length:Nat):Int) then 15
 else if(zC t.2.2.1 p).2=false then 6
 else if t.2.2.2.1 < (zC t.2.2.1 p).1 then 16
 else if(bY t).2=false then 6
 else if(g.1.getD (H7 g.1 t.1) B0).2.1 < (bY t).1 then 17
 else if 256 < (vA g t (bY t).1).1.length then 3
 else 0
theorem So {g:o8} {t:C5} {s:Int}:(vA g t s).1=t.2.2.2.2.2.foldl aS (iI g.1 t.1 s):=rfl
theorem KU {g:o8} {p:Int} {t:C5} {n:Int} (hs:Srt g.1) (hl:g.1.length<=1000000) (ht:TxS t) (hp:okU p):nM g p t n=some (Cx g p t n):=by
 have htl:=ht.2.2.2.2.2.1;unfold nM Cx;rw [sG (g:=g) hs (by omega),a2X];dsimp only;by_cases hf:H7 g.1 t.1 < g.1.length
 ·rw [a2S hf,a3m,E3,a25 (λh=>h hf),vU hs hf,a2S (by omega:(0:Int)<=((H7 g.1 t.1:Nat):Int)/\((H7 g.1 t.1:Nat):Int) < ((g.1.length:Nat):Int)),C4,a2T];by_cases h1:(g.1.getD (H7 g.1 t.1) B0).2.2=t.2.1
  ·rw [a2S h1,a3m,E3,a25 (λh=>h h1),h1];by_cases h2:t.2.1=18446744073709551615
   ·rw [a2S h2,E8,a28 h2]
   ·rw [a2Y h2,E3,a25 h2,ON,a2X];by_cases h3:t.2.2.1 < OM n ((t.2.2.2.2.2.length:Nat):Int)
    ·rw [a2S h3,E8,a28 h3]
    ·rw [a2Y h3,E3,a25 h3,OO ht.2.2.1 hp,a2X];by_cases h4:(zC t.2.2.1 p).2=false
     ·rw [h4,a3r,E8,a28 rfl]
     ·rw [a25 h4,a4M _ |>.mp h4,a3m,E3];by_cases h5:t.2.2.2.1 < (zC t.2.2.1 p).1
      ·rw [a2S h5,E8,a28 h5]
      ·rw [a2Y h5,E3,a25 h5,Em ht,a2X];by_cases h6:(bY t).2=false
       ·rw [h6,a3r,E8,a28 rfl]
       ·rw [a25 h6,a4M _ |>.mp h6,a3m,E3];by_cases h7:(g.1.getD (H7 g.1 t.1) B0).2.1 < (bY t).1
        ·rw [a2S h7,E8,a28 h7]
        ·rw [a2Y h7,E3,a25 h7];have hpl:(iI g.1 t.1 (bY t).1).length=g.1.length:=by rw [mD hf,a3G]
         have hge:=Wg t.2.2.2.2.2 (iI g.1 t.1 (bY t).1);have hle:=Cw t.2.2.2.2.2 (iI g.1 t.1 (bY t).1);rw [KT (P:=iI g.1 t.1 (bY t).1) hs hl (by omega) (λm=>by rw [sH hf]) hpl,a2X,So];rw [C8 (by omega) (by omega)];by_cases h8:256 < (t.2.2.2.2.2.foldl aS (iI g.1 t.1 (bY t).1)).length
         ·rw [a28 h8,a2S (by omega),E8]
         ·rw [a25 h8,a2Y (by omega),E3]
  ·rw [a2Y h1,a3r,E8,a28 h1]
 ·rw [a2Y hf,a3r,E8,a28 hf]
theorem OR {g:o8} {p:Int} {t:C5} {n:Int} (hl:g.1.length<=1000000) (ht:TxS t) (hp:okU p):fh g p t n=some (Cx g p t n):=by
 have htl:=ht.2.2.2.2.2.1;unfold fh Cx;rw [Of (by omega),a2X];unfold Ls;by_cases hf:H7 g.1 t.1 < g.1.length
 ·rw [a28 hf,a25 (λh=>h hf)];dsimp only;rw [a3m,E3];by_cases h1:(g.1.getD (H7 g.1 t.1) B0).2.2=t.2.1
  ·rw [a2S h1,a3m,E3,a25 (λh=>h h1)];by_cases h2:t.2.1=18446744073709551615
   ·rw [a2S h2,E8,a28 h2]
   ·rw [a2Y h2,E3,a25 h2,Sm,a2X];by_cases h3:t.2.2.1 < OM n ((t.2.2.2.2.2.length:Nat):Int)
    ·rw [a2S h3,E8,a28 h3]
    ·rw [a2Y h3,E3,a25 h3,Sn ht.2.2.1 hp,a2X,IZ ht,a2X];by_cases h4:(zC t.2.2.1 p).2=false
     ·rw [h4,a3r,E8,a28 rfl]
     ·rw [a25 h4,a4M _ |>.mp h4,a3m,E3];by_cases h5:t.2.2.2.1 < (zC t.2.2.1 p).1
      ·rw [a2S h5,E8,a28 h5]
      ·rw [a2Y h5,E3,a25 h5];by_cases h6:(bY t).2=false
       ·rw [h6,a3r,E8,a28 rfl]
       ·rw [a25 h6,a4M _ |>.mp h6,a3m,E3];by_cases h7:(g.1.getD (H7 g.1 t.1) B0).2.1 < (bY t).1
        ·rw [a2S h7,E8,a28 h7]
        ·rw [a2Y h7,E3,a25 h7,Jb (by omega) (by omega),a2X];by_cases h8:256 < (vA g t (bY t).1).1.length
         ·rw [a28 h8,a2S (by omega),E8]
         ·rw [a25 h8,a2Y (by omega),E3]
  ·rw [a2Y h1,a3r,E8,a28 h1]
 ·rw [a25 hf,a28 hf];rfl
def rsF (g:o8) (p:Int) (raw:List UInt8):D0:=
 if Ch g ≠ 0 then(1,[],0,0,0)
 else if(gR raw).2 ≠ 0 then((gR raw).2,[],0,0,0)
 else(Cx g p (gR raw).1 ((raw.length:Nat):Int),(gR raw).1.1,(gR raw).1.2.1,(gR raw).1.2.2.1,GG (gR raw).1.2.2.2.1 (gR raw).1.2.2.1)
def a0h (g:o8) (p:Int) (raw:List UInt8):o8:=
 if(rsF g p raw).1=0 then vA g (gR raw).1 (bY (gR raw).1).1 else g
def T7 (g:o8) (p:Int) (raw:List UInt8):o8 × D0:=(a0h g p raw,rsF g p raw)
theorem AB {g:o8} {p:Int} {t:C5} {n:Int} (h:Cx g p t n=0):H7 g.1 t.1 < g.1.length:=by
 refine Classical.byContradiction λhf=>?_;unfold Cx at h;rw [a28 hf] at h;cases h
theorem xp {g:o8} {p:Int} {raw:List UInt8} (hv:Ch g ≠ 0):T7 g p raw=(g,(1,[],0,0,0)):=by
 have h:rsF g p raw=(1,[],0,0,0):=by unfold rsF;rw [a28 hv]
 unfold T7 a0h;rw [h,a25 (by decide)]
theorem xq {g:o8} {p:Int} {raw:List UInt8} (hv:Ch g=0) (hd:(gR raw).2 ≠ 0):T7 g p raw=(g,((gR raw).2,[],0,0,0)):=by
 have h:rsF g p raw=((gR raw).2,[],0,0,0):=by unfold rsF;rw [a25 (λh=>h hv),a28 hd]
 unfold T7 a0h;rw [h,a25 hd]
theorem xr {g:o8} {p:Int} {raw:List UInt8} (hv:Ch g=0) (hd:(gR raw).2=0):T7 g p raw=(if Cx g p (gR raw).1 ((raw.length:Nat):Int)=0 then vA g (gR raw).1 (bY (gR raw).1).1 else g,(Cx g p (gR raw).1 ((raw.length:Nat):Int),(gR raw).1.1,(gR raw).1.2.1,(gR raw).1.2.2.1,GG (gR raw).1.2.2.2.1 (gR raw).1.2.2.1)):=by
 have h:rsF g p raw=(Cx g p (gR raw).1 ((raw.length:Nat):Int),(gR raw).1.1,(gR raw).1.2.1,(gR raw).1.2.2.1,GG (gR raw).1.2.2.2.1 (gR raw).1.2.2.1):=by unfold rsF;rw [a25 (λh=>h hv),a25 (λh=>h hd)]
 unfold T7 a0h;rw [h]
theorem OS {g:o8} {p:Int} {raw:List UInt8} (hg:ID g) (hp:okU p) (hr:raw.length<=140737488351232):pA g p raw=some (T7 g p raw):=by
 have hgl:=hg.2.2.2;unfold pA;rw [VN hgl,a2X,RK hg,a2X];by_cases hv:Ch g=0
 ·have hgd:=II.1 hv;rw [a2S hv,a3m,E3,Ej (by omega),a2X];by_cases hd:(gR raw).2=0
  ·have hts:=vv raw;rw [xr hv hd,a2S hd,a3m,E3,KU hgd.2.2.1 (by have:=hgd.1;omega) hts hp,a2X,KS hts.2.2.2.1 hts.2.2.1,a2X];by_cases hc:Cx g p (gR raw).1 ((raw.length:Nat):Int)=0
   ·rw [a2S hc,E8,a28 hc,KR hgd.2.2.1 (by have:=hgd.1;omega) hts (AB hc),a2X]
   ·rw [a2Y hc,E3,a25 hc]
  ·rw [xq hv hd,a2Y hd,a3r,E8]
 ·rw [xp hv,a2Y hv,a3r,E8]
theorem wC {g:o8} {p:Int} {raw:List UInt8} (hg:ID g) (hp:okU p) (hr:raw.length<=140737488351232):L0 g p raw=some (T7 g p raw):=by
 unfold L0;rw [VJ hg,a2X];by_cases hv:Ch g=0
 ·have hgd:=II.1 hv;rw [a2S hv,a3m,E3,AA (by omega),a2X];by_cases hd:(gR raw).2=0
  ·have hts:=vv raw;have htl:=hts.2.2.2.2.2.1;rw [xr hv hd,a2S hd,a3m,E3,OR (by have:=hgd.1;omega) hts hp,a2X,OP hts.2.2.2.1 hts.2.2.1,a2X];by_cases hc:Cx g p (gR raw).1 ((raw.length:Nat):Int)=0
   ·rw [a2S hc,a3m,E3,a28 hc,IZ hts,a2X,Jb (by have:=hgd.1;omega) (by omega),a2X]
   ·rw [a2Y hc,a3r,E8,a25 hc]
  ·rw [xq hv hd,a2Y hd,a3r,E8]
 ·rw [xp hv,a2Y hv,a3r,E8]
theorem En:∀ {l:List A0},oJ l=0->∀ x ∈ l,ap x.1=true
 | [],_,x,hx=>by cases hx
 | y :: l,h,x,hx=>by
  unfold oJ at h;by_cases h1:ap y.1=true
  ·rw [a28 h1] at h;by_cases h2:y.2=0
   ·rw [a28 h2] at h;cases h
   ·rw [a25 h2] at h;rcases List.mem_cons.1 hx with rfl | hx
    ·exact h1
    ·exact En h x hx
  ·rw [a25 h1] at h;cases h
theorem GH {t:C5} (h:kq t=0):ap t.1=true/\∀ x ∈ t.2.2.2.2.2,ap x.1=true:=by
 unfold kq at h;by_cases h1:ap t.1=true
 ·rw [a28 h1] at h;refine⟨h1,?_⟩;split at h
  ·cases h
  ·split at h
   ·split at h
    ·cases h
    ·split at h
     ·cases h
     ·exact En h
   ·cases h
 ·rw [a25 h1] at h;cases h
theorem Zu {s:List UInt8} (h:ap s=true):Ee s:=by
 refine⟨h,?_⟩;unfold ap at h;have:=a23 (a24 _ _ |>.mp h).2;exact this.2
theorem oL:okU 0:=⟨by omega,by omega⟩
def GI (n:Nat) (g:o8):Prop:=g.1.length<=n/\(∀ a ∈ g.1,GA a)/\okU g.2
theorem GA.len {a:o6} (h:GA a):a.1.length<=1000000000000000:=by have:=h.1.2;omega
theorem GI.b {n:Nat} {g:o8} (h:GI n g) (hn:n<=1000000):ID g:=⟨h.2.2,λa ha=>(h.2.1 a ha).2.1,λa ha=>(h.2.1 a ha).len,by have:=h.1;omega⟩
theorem GI.mono {n m:Nat} {g:o8} (h:GI n g) (hn:n<=m):GI m g:=⟨a3w h.1 hn,h.2⟩
theorem Sq {l:List o6} {x:TR} (h:∀ a ∈ l,GA a) (hx:ap x.1=true):∀ a ∈ aS l x,GA a:=λa ha=>by
 rcases IY ha with h1 | ⟨h1,h2,h3⟩
 ·exact h a h1
 ·refine⟨by rw [h1];exact Zu hx,h2,?_⟩;rcases h3 with h3 | ⟨b,hb,_,e⟩
  ·rw [h3];exact oL
  ·rw [e];exact(h b hb).2.2
theorem Sr {l:List TR} (hl:∀ x ∈ l,ap x.1=true) {a:List o6} (h:∀ b ∈ a,GA b):∀ b ∈ l.foldl aS a,GA b:=by
 induction l generalizing a with
 | nil=>exact h
 | cons x l ih=>exact ih (λy hy=>hl y (a3t _ hy)) (Sq h (hl x (a3V ..)))
theorem Ss {l:List o6} {n:List UInt8} {sum:Int} (hf:H7 l n < l.length) (h:∀ a ∈ l,GA a):∀ a ∈ iI l n sum,GA a:=λa ha=>by
 rw [mD hf] at ha;rcases a3L ha with h1 | rfl
 ·exact h a h1
 ·exact⟨(h _ (a29 hf)).1,V9 _,V9 _⟩
theorem Wh {g:o8} {p:Int} {t:C5} {n:Int} (h:Cx g p t n=0):(vA g t (bY t).1).1.length<=256:=by
 refine Classical.byContradiction λhf=>?_;have hf:256 < (vA g t (bY t).1).1.length:=by omega
 unfold Cx at h
 repeat' split at h
 all_goals first | cases h | exact absurd hf ‹_›
theorem vZ (g:o8) (p:Int) (raw:List UInt8):((T7 g p raw).1=g/\(T7 g p raw).2.1 ≠ 0)\/(Ch g=0/\(gR raw).2=0/\Cx g p (gR raw).1 ((raw.length:Nat):Int)=0/\(T7 g p raw).1=vA g (gR raw).1 (bY (gR raw).1).1/\(T7 g p raw).2.1=0/\(T7 g p raw).2.2.1=(gR raw).1.1):=by
 by_cases hv:Ch g=0
 ·by_cases hd:(gR raw).2=0
  ·rw [xr hv hd];by_cases hc:Cx g p (gR raw).1 ((raw.length:Nat):Int)=0
   ·rw [a28 hc];exact .inr ⟨hv,hd,hc,rfl,hc,rfl⟩
   ·rw [a25 hc];exact .inl ⟨rfl,hc⟩
  ·rw [xq hv hd];exact .inl ⟨rfl,hd⟩
 ·rw [xp hv];exact .inl ⟨rfl,λh=>by cases h⟩
theorem Su {g:o8} {p:Int} {raw:List UInt8} (h:GI 256 g):GI 256 (T7 g p raw).1:=by
 rcases vZ g p raw with⟨e,_⟩ | ⟨hv,hd,hc,e,_⟩
 ·rw [e];exact h
 ·rw [e];have hn:=GH (Wd hd).1;exact⟨Wh hc,Sr hn.2 (Ss (AB hc) h.2.1),V9 _⟩
theorem Sv (t:C5):(Zs t).1.length<=4096:=by
 unfold Zs;split
 ·split
  ·simp
  ·dsimp only;omega
 ·simp
theorem a1k {l:List o6} (h:KI l):GI 4 (WN l).1:=by
 unfold WN;have hno:GI 4 Kz:=⟨by simp,λx hx=>(by cases hx),oL⟩;split
 ·exact hno
 ·split
  ·split
   ·exact⟨by rw [(pQ l).length_eq];exact h.1,λa ha=>h.2 a ((pQ l).mem_iff.1 ha),oL⟩
   ·exact hno
  ·exact hno
theorem a2O:GI 256 ([],(0:Int)):=⟨by simp,λx hx=>(by cases hx),oL⟩
end Go.Proofs.YtjbgdpjgfjnkbaaGreatDoor.Am
