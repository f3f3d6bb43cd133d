/- Texts laid together: PForm, PReadT, PCodec, PTxN. No conditions. -/
import Derived.Test.YtbipjlehhlkghaaGreatDoorQAJ
import Derived.Test.YtbipjlehhlkghaaGreatDoorQAK
namespace Go.Proofs.YtbipjlehhlkghaaGreatDoor.Am
open Go
def b0R (n:Int) (s:List UInt8):List Fld:=if s=[] then [] else [⟨n,2,0,s⟩]
def a9k (n:Int) (v:Int):List Fld:=if v=0 then [] else [⟨n,0,v.toNat,[]⟩]
def trF (x:o8):List Fld:=b0R 1 x.1 ++ a9k 2 x.2
def c2Z (x:o8):Fld:=⟨6,2,0,a3l (trF x)⟩
def hdF (t:A7):List Fld:=b0R 1 t.1 ++ (a9k 2 t.2.1 ++ (a9k 3 t.2.2.1 ++ (a9k 4 t.2.2.2.1 ++ b0R 5 t.2.2.2.2.1)))
def txF (t:A7):List Fld:=hdF t ++ t.2.2.2.2.2.map c2Z
def TrS (x:o8):Prop:=x.1.length<=10000/\b13 x.2
def TxS (t:A7):Prop:=t.1.length<=10000/\b13 t.2.1/\b13 t.2.2.1/\b13 t.2.2.2.1/\t.2.2.2.2.1.length<=10000/\t.2.2.2.2.2.length<=2000/\∀ x ∈ t.2.2.2.2.2,TrS x
def c0e (n:Nat) (f:Fld):Prop:=f.ok=true/\f.val < U64/\f.byt.length<=n
theorem Fld.enc_leS {f:Fld} {n:Nat} (h:c0e n f) (hn:n<=1000000000):f.enc.length<=n + 20:=by
 obtain⟨h1,h2,h3⟩:=h
 have t1:=a6U f.tag (Fld.tag_lt f h1).1
 have t2:=a6U f.val h2
 have t3:=a6U f.byt.length (by unfold U64;omega)
 unfold Fld.enc
 rw [List.length_append]
 split
 ·omega
 ·rw [List.length_append];omega
theorem b6c (a b:List Fld):a3l (a ++ b)=a3l a ++ a3l b:=by unfold a3l;simp
theorem c4x:a3l []=[]:=rfl
theorem b6d (f:Fld):a3l [f]=f.enc:=by unfold a3l;simp
theorem c8u {n:Int} {s:List UInt8} {m:Nat} (h1:1<=n) (h2:n<=100) (hs:s.length<=m):∀ f ∈ b0R n s,c0e m f:=by
 intro f hf
 unfold b0R at hf
 split at hf
 ·cases hf
 ·simp only [List.mem_singleton] at hf;subst hf
  exact⟨by simp [Fld.ok];omega,by unfold U64;simp,hs⟩
theorem c4y {n v:Int} {m:Nat} (h1:1<=n) (h2:n<=100) (hv:b13 v):∀ f ∈ a9k n v,c0e m f:=by
 intro f hf
 unfold a9k at hf
 unfold b13 at hv
 split at hf
 ·cases hf
 ·simp only [List.mem_singleton] at hf;subst hf
  exact⟨by simp [Fld.ok];omega,by unfold U64;simp only;omega,by simp⟩
theorem a7P (n:Int) (s:List UInt8):(b0R n s).length<=1:=by unfold b0R;split <;> simp
theorem a8Z (n v:Int):(a9k n v).length<=1:=by unfold a9k;split <;> simp
theorem c5M {m:Nat} {a b:List Fld} (ha:∀ f ∈ a,c0e m f) (hb:∀ f ∈ b,c0e m f):∀ f ∈ a ++ b,c0e m f:=fun f hf=>by
 rcases List.mem_append.1 hf with hf | hf
 ·exact ha f hf
 ·exact hb f hf
theorem b9O {m:Nat} (hm:m<=1000000000):∀ {l:List Fld},(∀ f ∈ l,c0e m f)->(a3l l).length<=l.length * (m + 20)
 | [],_=>by simp [a3l]
 | f :: l,h=>by
  have h1:=Fld.enc_leS (h f (by simp)) hm
  have h2:=b9O hm (l:=l) (fun g hg=>h g (by simp [hg]))
  rw [a6V,List.length_append,List.length_cons,Nat.succ_mul]
  omega
theorem c8v {x:o8} (h:TrS x):∀ f ∈ trF x,c0e 10000 f:=c5M (c8u (by omega) (by omega) h.1) (c4y (by omega) (by omega) h.2)
theorem d18 {x:o8} (h:TrS x):(a3l (trF x)).length<=20040:=by
 have h1:=b9O (by omega) (c8v h)
 have h2:=a7P 1 x.1
 have h3:=a8Z 2 x.2
 unfold trF at h1 ⊢
 rw [List.length_append] at h1
 omega
theorem c8w {x:o8} (h:TrS x):c0e 20040 (c2Z x):=⟨by simp [c2Z,Fld.ok],by unfold U64;simp [c2Z],d18 h⟩
theorem d5R {t:A7} (h:TxS t):∀ f ∈ hdF t,c0e 10000 f:=by
 obtain⟨h1,h2,h3,h4,h5,_⟩:=h
 exact c5M (c8u (by omega) (by omega) h1) (c5M (c4y (by omega) (by omega) h2) (c5M (c4y (by omega) (by omega) h3) (c5M (c4y (by omega) (by omega) h4) (c8u (by omega) (by omega) h5))))
theorem c20 (t:A7):(hdF t).length<=5:=by
 have h1:=a7P 1 t.1
 have h2:=a8Z 2 t.2.1
 have h3:=a8Z 3 t.2.2.1
 have h4:=a8Z 4 t.2.2.2.1
 have h5:=a7P 5 t.2.2.2.2.1
 unfold hdF
 simp only [List.length_append]
 omega
theorem d5S {t:A7} (h:TxS t):(a3l (hdF t)).length<=50100:=by
 have h1:=b9O (by omega) (d5R h)
 have h2:=c20 t
 omega
theorem c0e.mono {m n:Nat} (h:m<=n) {f:Fld} (hf:c0e m f):c0e n f:=⟨hf.1,hf.2.1,by have:=hf.2.2;omega⟩
theorem d3x {t:A7} (h:TxS t):∀ f ∈ txF t,c0e 20040 f:=by
 refine c5M (fun f hf=>(d5R h f hf).mono (by omega)) fun f hf=>?_
 obtain⟨x,hx,rfl⟩:=List.mem_map.1 hf
 exact c8w (h.2.2.2.2.2.2 x hx)
theorem c21 {b s:List UInt8} {n:Int} (h1:1<=n) (h2:n<=100) (hb:b.length<=10000000000) (hs:s.length<=1000000):M5 b n s=some (b ++ a3l (b0R n s)):=by
 rw [<-L4]
 simp only [M5,C0,E5,B6,A3,decide_eq_true_eq,decide_eq_false_iff_not]
 refine⟨fun h=>?_,fun h=>⟨by unfold maxLen;omega,?_⟩⟩
 ·unfold b0R;rw [if_pos h,c4x,List.append_nil]
 ·have hf:c0e 1000000 (⟨n,2,0,s⟩:Fld):=⟨by simp [Fld.ok];omega,by unfold U64;simp,hs⟩
  have hw:=b4Y [] ⟨n,2,0,s⟩ hf.1 hf.2.1 (by simp) (by simp only;omega)
  have hle:=Fld.enc_leS hf (by omega)
  have hw':K0 [] (n,2,(0:Int),s)=some ([] ++ (⟨n,2,0,s⟩:Fld).enc,0):=hw
  rw [hw',A3,List.nil_append]
  dsimp only
  refine⟨⟨by unfold LIM;omega,by unfold LEN;omega⟩,?_⟩
  unfold b0R;rw [if_neg h,b6d]
theorem b9P {b:List UInt8} {n v:Int} (h1:1<=n) (h2:n<=100) (hb:b.length<=10000000000) (hv:b13 v):K3 b n v=some (b ++ a3l (a9k n v)):=by
 rw [<-L4]
 unfold b13 at hv
 simp only [K3,C0,E5,B6,A3,decide_eq_true_eq,decide_eq_false_iff_not]
 refine⟨fun h=>?_,fun h=>?_⟩
 ·unfold a9k;rw [if_pos h,c4x,List.append_nil]
 ·have hf:c0e 0 (⟨n,0,v.toNat,[]⟩:Fld):=⟨by simp [Fld.ok];omega,by unfold U64;simp only;omega,by simp⟩
  have hw:=b4Y [] ⟨n,0,v.toNat,[]⟩ hf.1 hf.2.1 (by simp) (by simp)
  have hle:=Fld.enc_leS hf (by omega)
  have hw':K0 [] (n,0,v,[])=some ([] ++ (⟨n,0,v.toNat,[]⟩:Fld).enc,0):=by
   rw [<-hw]
   unfold toF
   simp only
   rw [show((v.toNat:Nat):Int)=v by omega]
  rw [hw',A3,List.nil_append]
  dsimp only
  refine⟨⟨by unfold LIM;omega,by unfold LEN;omega⟩,?_⟩
  unfold a9k;rw [if_neg h,b6d]
theorem d3y {b s:List UInt8} {n:Int} (h1:1<=n) (h2:n<=100) (hb:b.length<=10000000000) (hs:s.length<=1000000):V7 b n s=some (b ++ (⟨n,2,0,s⟩:Fld).enc):=by
 rw [<-L4]
 have hf:c0e 1000000 (⟨n,2,0,s⟩:Fld):=⟨by simp [Fld.ok];omega,by unfold U64;simp,hs⟩
 have hw:=b4Y [] ⟨n,2,0,s⟩ hf.1 hf.2.1 (by simp) (by simp only;omega)
 have hle:=Fld.enc_leS hf (by omega)
 have hw':K0 [] (n,2,(0:Int),s)=some ([] ++ (⟨n,2,0,s⟩:Fld).enc,0):=hw
 simp only [V7,hw',E5,B6,A3,decide_eq_true_eq,List.nil_append]
 exact⟨⟨by unfold LIM;omega,by unfold LEN;omega⟩,trivial⟩
theorem c5N {t:A7} (h:TxS t):a8I t=some (a3l (txF t)):=by
 rw [<-L4]
 have hh:=h
 obtain⟨h1,h2,h3,h4,h5,h6,h7⟩:=h
 have hle:=d5S hh
 have L:∀ {a b:List UInt8} {n:Nat},(a ++ b).length<=n->a.length<=n:=fun h=>by rw [List.length_append] at h;omega
 have e0:a3l (hdF t)=((((a3l (b0R 1 t.1) ++ a3l (a9k 2 t.2.1)) ++ a3l (a9k 3 t.2.2.1)) ++ a3l (a9k 4 t.2.2.2.1)) ++ a3l (b0R 5 t.2.2.2.2.1)):=by
  unfold hdF;simp only [b6c,List.append_assoc]
 rw [e0] at hle
 have w1:=c21 (b:=[]) (n:=1) (s:=t.1) (by omega) (by omega) (by simp) (by omega)
 rw [List.nil_append] at w1
 have w2:=b9P (b:=a3l (b0R 1 t.1)) (n:=2) (by omega) (by omega) (by have:=L (L (L (L hle)));omega) h2
 have w3:=b9P (b:=a3l (b0R 1 t.1) ++ a3l (a9k 2 t.2.1)) (n:=3) (by omega) (by omega) (by have:=L (L (L hle));omega) h3
 have w4:=b9P (b:=(a3l (b0R 1 t.1) ++ a3l (a9k 2 t.2.1)) ++ a3l (a9k 3 t.2.2.1)) (n:=4) (by omega) (by omega) (by have:=L (L hle);omega) h4
 have w5:=c21 (b:=((a3l (b0R 1 t.1) ++ a3l (a9k 2 t.2.1)) ++ a3l (a9k 3 t.2.2.1)) ++ a3l (a9k 4 t.2.2.2.1)) (n:=5) (s:=t.2.2.2.2.1) (by omega) (by omega) (by have:=L hle;omega) (by omega)
 unfold a8I
 rw [w1,Option.bind_some,w2,Option.bind_some,w3,Option.bind_some,w4,Option.bind_some,w5,Option.bind_some,<-e0]
 rw [<-e0] at hle
 unfold b0H
 refine E7 t.2.2.2.2.2 (fun i (b:List UInt8)=>(t.2.2.2.2.2,((t.2.2.2.2.2.length:Nat):Int),((i:Nat):Int),b)) (fun i b=>i<=t.2.2.2.2.2.length/\b=a3l (hdF t ++ (t.2.2.2.2.2.take i).map c2Z)/\b.length<=50100 + i * 20060) (fun i b hi hv=>?_) (fun b hv=>?_) ⟨Nat.zero_le _,by simp,by omega⟩ (by omega)
 ·obtain⟨v1,v2,v3⟩:=hv
  have hx:=h7 _ (List.getElem_mem hi)
  have htl:=d18 hx
  have q1:=c21 (b:=[]) (n:=1) (s:=(t.2.2.2.2.2[i]).1) (by omega) (by omega) (by simp) (by have:=hx.1;omega)
  rw [List.nil_append] at q1
  have e1:a3l (trF t.2.2.2.2.2[i])=a3l (b0R 1 (t.2.2.2.2.2[i]).1) ++ a3l (a9k 2 (t.2.2.2.2.2[i]).2):=by unfold trF;rw [b6c]
  have q2:=b9P (b:=a3l (b0R 1 (t.2.2.2.2.2[i]).1)) (n:=2) (by omega) (by omega) (by rw [e1] at htl;have:=L htl;omega) hx.2
  rw [<-e1] at q2
  have q3:=d3y (b:=b) (n:=6) (s:=a3l (trF t.2.2.2.2.2[i])) (by omega) (by omega) (by omega) (by omega)
  have q4:=Fld.enc_leS (c8w hx) (by omega)
  simp only [a5t,C0,E5,B6,A3,B4,B8,decide_eq_true_eq,decide_eq_false_iff_not,Int.toNat_natCast,D8 hi,q1,q2,q3,E2 (i:=i) (by omega)]
  refine⟨fun _=>⟨by omega,_,rfl,by omega,?_,?_⟩,fun hc=>absurd hc (by omega)⟩
  ·rw [N0 hi,List.map_append,<-List.append_assoc,b6c,<-v2,List.map_cons,List.map_nil,b6d];rfl
  ·rw [List.length_append,Nat.succ_mul]
   have q4':(⟨6,2,0,a3l (trF t.2.2.2.2.2[i])⟩:Fld).enc.length<=20040 + 20:=q4
   omega
 ·obtain⟨v1,v2,v3⟩:=hv
  simp only [a5t,C0,E5,B6,A3,B4,B8,decide_eq_true_eq,decide_eq_false_iff_not,Int.toNat_natCast]
  refine⟨fun hc=>absurd hc (by omega),fun _=>?_⟩
  rw [v2,List.take_length];rfl
theorem b9Q {l:List A1} {n:Int} {s:List UInt8} (hl:l.length<=100000) (hs:s.length<=1000000):O1 l n s=some (l ++ (b0R n s).map toF):=by
 rw [<-L4]
 simp only [O1,C0,E5,A3,decide_eq_true_eq,decide_eq_false_iff_not]
 refine⟨fun h=>?_,fun h=>⟨by unfold maxLen;omega,⟨by unfold LIM;omega,by unfold LEN;omega⟩,?_⟩⟩
 ·unfold b0R;rw [if_pos h,List.map_nil,List.append_nil]
 ·unfold b0R;rw [if_neg h];rfl
theorem a9U {l:List A1} {n v:Int} (hl:l.length<=100000) (hv:b13 v):J9 l n v=some (l ++ (a9k n v).map toF):=by
 rw [<-L4]
 unfold b13 at hv
 simp only [J9,C0,E5,A3,decide_eq_true_eq,decide_eq_false_iff_not]
 refine⟨fun h=>?_,fun h=>⟨⟨by unfold LIM;omega,by unfold LEN;omega⟩,?_⟩⟩
 ·unfold a9k;rw [if_pos h,List.map_nil,List.append_nil]
 ·unfold a9k;rw [if_neg h]
  simp only [List.map_cons,List.map_nil,toF]
  rw [show((v.toNat:Nat):Int)=v by omega]
theorem b40 {l:List Fld} {m:Nat} (hm:m<=1000000) (h:∀ f ∈ l,c0e m f) (hl:l.length<=10000):D9 (l.map toF)=some (a3l l):=by
 rw [<-L4]
 unfold D9 a1u
 have hlen:(l.map toF).length=l.length:=List.length_map ..
 refine E7 (l.map toF) (fun i (b:List UInt8)=>(l.map toF,(((l.map toF).length:Nat):Int),((i:Nat):Int),b)) (fun i b=>i<=l.length/\b=a3l (l.take i)/\b.length<=i * 1000020) (fun i b hi hv=>?_) (fun b hv=>?_) ⟨Nat.zero_le _,by simp [a3l],by simp⟩ (by omega)
 ·obtain⟨v1,v2,v3⟩:=hv
  have hi':i < l.length:=by omega
  have hf:=h _ (List.getElem_mem hi')
  have q:=c8t b l[i] hf.1 hf.2.1 (by omega) (by have:=hf.2.2;omega)
  have q2:=Fld.enc_leS hf (by omega)
  have q3:List.getD (l.map toF) i B7=toF l[i]:=by rw [D8 hi,List.getElem_map]
  simp only [L5,C0,E5,B6,A3,B4,B8,decide_eq_true_eq,decide_eq_false_iff_not,Int.toNat_natCast,q3,q,E2 (i:=i) (by omega)]
  refine⟨fun _=>⟨by omega,_,rfl,by omega,?_,?_⟩,fun hc=>absurd hc (by omega)⟩
  ·rw [N0 hi',b6c,<-v2,b6d]
  ·rw [List.length_append,Nat.succ_mul];omega
 ·obtain⟨v1,v2,v3⟩:=hv
  simp only [L5,C0,E5,B6,A3,B4,B8,decide_eq_true_eq,decide_eq_false_iff_not,Int.toNat_natCast]
  refine⟨fun hc=>absurd hc (by omega),fun _=>?_⟩
  rw [v2,hlen,List.take_length]
theorem c22 {t:A7} (h:TxS t):T0 t=some (a3l (txF t)):=by
 rw [<-L4]
 have hh:=h
 obtain⟨h1,h2,h3,h4,h5,h6,h7⟩:=h
 have hn:=c20 t
 have e0:(hdF t).map toF=(((((b0R 1 t.1).map toF ++ (a9k 2 t.2.1).map toF) ++ (a9k 3 t.2.2.1).map toF) ++ (a9k 4 t.2.2.2.1).map toF) ++ (b0R 5 t.2.2.2.2.1).map toF):=by
  unfold hdF;simp only [List.map_append,List.append_assoc]
 have hle:(((((b0R 1 t.1).map toF ++ (a9k 2 t.2.1).map toF) ++ (a9k 3 t.2.2.1).map toF) ++ (a9k 4 t.2.2.2.1).map toF) ++ (b0R 5 t.2.2.2.2.1).map toF).length<=5:=by rw [<-e0,List.length_map];exact hn
 have L:∀ {a b:List A1} {n:Nat},(a ++ b).length<=n->a.length<=n:=fun h=>by rw [List.length_append] at h;omega
 have w1:=b9Q (l:=[]) (n:=1) (s:=t.1) (by simp) (by omega)
 rw [List.nil_append] at w1
 have w2:=a9U (l:=(b0R 1 t.1).map toF) (n:=2) (by have:=L (L (L (L hle)));omega) h2
 have w3:=a9U (l:=(b0R 1 t.1).map toF ++ (a9k 2 t.2.1).map toF) (n:=3) (by have:=L (L (L hle));omega) h3
 have w4:=a9U (l:=((b0R 1 t.1).map toF ++ (a9k 2 t.2.1).map toF) ++ (a9k 3 t.2.2.1).map toF) (n:=4) (by have:=L (L hle);omega) h4
 have w5:=b9Q (l:=(((b0R 1 t.1).map toF ++ (a9k 2 t.2.1).map toF) ++ (a9k 3 t.2.2.1).map toF) ++ (a9k 4 t.2.2.2.1).map toF) (n:=5) (s:=t.2.2.2.2.1) (by have:=L hle;omega) (by omega)
 unfold T0
 rw [w1,Option.bind_some,w2,Option.bind_some,w3,Option.bind_some,w4,Option.bind_some,w5,Option.bind_some,<-e0]
 unfold a5q
 refine E7 t.2.2.2.2.2 (fun i (b:List A1)=>(t.2.2.2.2.2,((t.2.2.2.2.2.length:Nat):Int),((i:Nat):Int),b)) (fun i b=>i<=t.2.2.2.2.2.length/\b=(hdF t ++ (t.2.2.2.2.2.take i).map c2Z).map toF) (fun i b hi hv=>?_) (fun b hv=>?_) ⟨Nat.zero_le _,by simp⟩ (by omega)
 ·obtain⟨v1,v2⟩:=hv
  have hx:=h7 _ (List.getElem_mem hi)
  have q1:=b9Q (l:=[]) (n:=1) (s:=(t.2.2.2.2.2[i]).1) (by simp) (by have:=hx.1;omega)
  rw [List.nil_append] at q1
  have q2:=a9U (l:=(b0R 1 (t.2.2.2.2.2[i]).1).map toF) (n:=2) (by rw [List.length_map];have:=a7P 1 (t.2.2.2.2.2[i]).1;omega) hx.2
  rw [<-List.map_append] at q2
  have q3:=b40 (l:=trF t.2.2.2.2.2[i]) (by omega) (c8v hx) (by unfold trF;rw [List.length_append];have:=a7P 1 (t.2.2.2.2.2[i]).1;have:=a8Z 2 (t.2.2.2.2.2[i]).2;omega)
  have q3':D9 (List.map toF (b0R 1 (t.2.2.2.2.2[i]).1 ++ a9k 2 (t.2.2.2.2.2[i]).2))=some (a3l (trF t.2.2.2.2.2[i])):=q3
  have hbl:b.length<=5 + i:=by
   rw [v2,List.length_map,List.length_append,List.length_map,List.length_take];omega
  simp only [a0K,C0,E5,B6,A3,D5,B4,B8,decide_eq_true_eq,decide_eq_false_iff_not,Int.toNat_natCast,D8 hi,q1,q2,q3',E2 (i:=i) (by omega)]
  refine⟨fun _=>⟨by omega,⟨by unfold LIM;omega,by unfold LEN;omega⟩,_,rfl,by omega,?_⟩,fun hc=>absurd hc (by omega)⟩
  rw [N0 hi,List.map_append (f:=c2Z),<-List.append_assoc,List.map_append (f:=toF),<-v2];rfl
 ·obtain⟨v1,v2⟩:=hv
  rw [List.take_length] at v2
  have q:=b40 (l:=txF t) (by omega) (d3x hh) (by unfold txF;rw [List.length_append,List.length_map];omega)
  have q':D9 b=some (a3l (txF t)):=by rw [v2];exact q
  simp only [a0K,C0,E5,B6,A3,D5,B4,B8,decide_eq_true_eq,decide_eq_false_iff_not,Int.toNat_natCast,q']
  exact⟨fun hc=>absurd hc (by omega),fun _=>trivial⟩
end Go.Proofs.YtbipjlehhlkghaaGreatDoor.Am
namespace Go.Proofs.YtbipjlehhlkghaaGreatDoor.Am
open Go
def c1K (x:o8) (f:Fld):o8:=if f.num=1 then(f.byt,x.2) else if f.num=2 then(x.1,((f.val:Nat):Int)) else x
def b5P (b:List UInt8):o8:=(a8X b).1.foldl c1K ([],0)
def b1v (t:A7) (f:Fld):A7:=
 if f.num=1 then(f.byt,t.2) else if f.num=2 then(t.1,((f.val:Nat):Int),t.2.2) else if f.num=3 then(t.1,t.2.1,((f.val:Nat):Int),t.2.2.2)
 else if f.num=4 then(t.1,t.2.1,t.2.2.1,((f.val:Nat):Int),t.2.2.2.2) else if f.num=5 then(t.1,t.2.1,t.2.2.1,t.2.2.2.1,f.byt,t.2.2.2.2.2)
 else if f.num=6 then(t.1,t.2.1,t.2.2.1,t.2.2.2.1,t.2.2.2.2.1,t.2.2.2.2.2 ++ [b5P f.byt]) else t
def a4A:A7:=([],0,0,0,[],[])
def b8D (l:List Fld):A7:=l.foldl b1v a4A
theorem b4t (b:List UInt8):(a8X b).1.length<=1024:=by
 have h:=c4q b
 by_cases h0:(a8X b).2.2=0
 ·exact(h.1 h0).2.2.2
 ·rw [(h.2 h0).1];simp
theorem c23 (b:List UInt8) (hb:b.length<=1000000000000):a5r b=some (b5P b):=by
 rw [<-L4]
 have hl:=b4t b
 unfold a5r b5P
 rw [b0o b hb,Option.bind_some]
 generalize (a8X b).1=l at *
 unfold a9v
 have hm:(l.map toF).length=l.length:=List.length_map ..
 refine E7 (l.map toF) (fun i (x:o8)=>((((l.map toF).length:Nat):Int),((i:Nat):Int),(([],(0:Int)):o8),x,l.map toF)) (fun i x=>(l.drop i).foldl c1K x=l.foldl c1K ([],0)) (fun i x hi hv=>?_) (fun x hv=>?_) rfl (by omega)
 ·have hi':i < l.length:=by omega
  have q3:List.getD (l.map toF) i B7=toF l[i]:=by rw [D8 hi,List.getElem_map]
  have qn:(toF l[i]).1=l[i].num:=rfl
  rw [List.drop_eq_getElem_cons hi',List.foldl_cons] at hv
  simp only [a4C,C0,E5,A3,B4,B8,decide_eq_true_eq,decide_eq_false_iff_not,Int.toNat_natCast,q3,qn,E2 (i:=i) (by omega)]
  refine⟨fun _=>⟨by omega,by omega,fun h1=>⟨_,rfl,?_⟩,fun h1=>⟨fun h2=>⟨_,rfl,?_⟩,fun h2=>⟨_,rfl,?_⟩⟩⟩,fun hc=>absurd hc (by omega)⟩
  ·rw [<-hv];congr 1;unfold c1K;rw [if_pos h1];rfl
  ·rw [<-hv];congr 1;unfold c1K;rw [if_neg h1,if_pos h2];rfl
  ·rw [<-hv];congr 1;unfold c1K;rw [if_neg h1,if_neg h2]
 ·simp only [a4C,C0,E5,A3,B4,B8,decide_eq_true_eq,decide_eq_false_iff_not,Int.toNat_natCast]
  refine⟨fun hc=>absurd hc (by omega),fun _=>?_⟩
  rw [hm,List.drop_length] at hv
  exact hv
theorem b9R (l:List Fld) (hl:l.length<=2000) (hb:∀ f ∈ l,f.byt.length<=1000000000000):b36 (l.map toF)=some (b8D l):=by
 rw [<-L4]
 have hm:(l.map toF).length=l.length:=List.length_map ..
 unfold b36 b35
 refine E7 (l.map toF) (fun i (t:A7)=>(l.map toF,(((l.map toF).length:Nat):Int),((i:Nat):Int),([]:List UInt8),(0:Int),(0:Int),(0:Int),([]:List UInt8),t.1,t.2.1,t.2.2.1,t.2.2.2.1,t.2.2.2.2.1,t.2.2.2.2.2)) (fun i t=>(l.drop i).foldl b1v t=b8D l/\t.2.2.2.2.2.length<=i) (fun i t hi hv=>?_) (fun t hv=>?_) (b0:=a4A) ⟨rfl,by simp [a4A]⟩ (by omega)
 ·obtain⟨hv,hlt⟩:=hv
  have hi':i < l.length:=by omega
  have q3:List.getD (l.map toF) i B7=toF l[i]:=by rw [D8 hi,List.getElem_map]
  have ht:=c23 l[i].byt (hb _ (List.getElem_mem hi'))
  have ht':a5r (toF l[i]).2.2.2=some (b5P l[i].byt):=ht
  have qn:(toF l[i]).1=l[i].num:=rfl
  rw [List.drop_eq_getElem_cons hi',List.foldl_cons] at hv
  simp only [a8G,C0,E5,B6,A3,B4,B8,decide_eq_true_eq,decide_eq_false_iff_not,Int.toNat_natCast,q3,E2 (i:=i) (by omega),ht',qn]
  refine⟨fun _=>⟨by omega,fun h1=>?_,fun h1=>⟨fun h2=>?_,fun h2=>⟨fun h3=>?_,fun h3=>⟨fun h4=>?_,fun h4=>⟨fun h5=>?_,fun h5=>⟨fun h6=>⟨⟨by unfold LIM;omega,by unfold LEN;omega⟩,?_⟩,fun h6=>?_⟩⟩⟩⟩⟩⟩,fun hc=>absurd hc (by omega)⟩
  ·refine⟨b1v t l[i],?_,hv,?_⟩ <;> (unfold b1v;rw [if_pos h1])
   ·rfl
   ·exact Nat.le_succ_of_le hlt
  ·refine⟨b1v t l[i],?_,hv,?_⟩ <;> (unfold b1v;rw [if_neg h1,if_pos h2])
   ·rfl
   ·exact Nat.le_succ_of_le hlt
  ·refine⟨b1v t l[i],?_,hv,?_⟩ <;> (unfold b1v;rw [if_neg h1,if_neg h2,if_pos h3])
   ·rfl
   ·exact Nat.le_succ_of_le hlt
  ·refine⟨b1v t l[i],?_,hv,?_⟩ <;> (unfold b1v;rw [if_neg h1,if_neg h2,if_neg h3,if_pos h4])
   ·rfl
   ·exact Nat.le_succ_of_le hlt
  ·refine⟨b1v t l[i],?_,hv,?_⟩ <;> (unfold b1v;rw [if_neg h1,if_neg h2,if_neg h3,if_neg h4,if_pos h5])
   ·rfl
   ·exact Nat.le_succ_of_le hlt
  ·refine⟨b1v t l[i],?_,hv,?_⟩ <;> (unfold b1v;rw [if_neg h1,if_neg h2,if_neg h3,if_neg h4,if_neg h5,if_pos h6])
   simp only [List.length_append,List.length_cons,List.length_nil];omega
  ·refine⟨b1v t l[i],?_,hv,?_⟩ <;> (unfold b1v;rw [if_neg h1,if_neg h2,if_neg h3,if_neg h4,if_neg h5,if_neg h6])
   exact Nat.le_succ_of_le hlt
 ·obtain⟨hv,_⟩:=hv
  simp only [a8G,C0,E5,B6,A3,B4,B8,decide_eq_true_eq,decide_eq_false_iff_not,Int.toNat_natCast]
  refine⟨fun hc=>absurd hc (by omega),fun _=>?_⟩
  rw [hm,List.drop_length] at hv
  exact hv
theorem d0Q {v:Int} (h:b13 v):((v.toNat:Nat):Int)=v:=by unfold b13 at h;omega
theorem c8x {x:o8} (h:TrS x):b5P (a3l (trF x))=x:=by
 have hs:=c8v h
 have hl:(trF x).length<=2:=by unfold trF;rw [List.length_append];have:=a7P 1 x.1;have:=a8Z 2 x.2;omega
 unfold b5P
 rw [b7h _ (by omega) (fun f hf=>⟨(hs f hf).1,(hs f hf).2.1,by have:=(hs f hf).2.2;unfold U64;omega⟩)]
 obtain⟨s,v⟩:=x
 have hv:=d0Q h.2
 simp only at hv
 unfold trF b0R a9k
 by_cases h1:s=[] <;> by_cases h2:v=0 <;> simp [h1,h2,c1K,hv]
end Go.Proofs.YtbipjlehhlkghaaGreatDoor.Am
namespace Go.Proofs.YtbipjlehhlkghaaGreatDoor.Am
open Go
theorem c1o {s:List UInt8}:∀ (f p k:Nat),b3t s f p k=true->k<=64/\s.length<=p + 4 * (64 - k)
 | 0,p,k,h=>by simp [b3t] at h
 | f + 1,p,k,h=>by
  unfold b3t at h
  by_cases h1:p < s.length
  ·rw [if_pos h1] at h
   by_cases h2:a9a s p=0
   ·rw [if_pos h2] at h;cases h
   ·rw [if_neg h2] at h
    have ih:=c1o f _ _ h
    have hw:=b9N s p
    omega
  ·rw [if_neg h1,decide_eq_true_eq] at h
   omega
theorem d0R {s:List UInt8} (h:b2T s=true):s.length<=260:=by
 have:=(c1o _ _ _ h).2;omega
theorem c4z {s:List UInt8} (h:T4 s=true):s.length<=20:=by
 unfold T4 at h
 rw [Bool.and_eq_true,decide_eq_true_eq] at h
 exact h.2.2
def TxN (t:A7):Prop:=b13 t.2.1/\b13 t.2.2.1/\b13 t.2.2.2.1/\∀ x ∈ t.2.2.2.2.2,b13 x.2
theorem b5D:∀ {l:List o8},a8Y l=0->∀ x ∈ l,x.1.length<=20
 | x :: l,h,y,hy=>by
  unfold a8Y at h
  by_cases h1:T4 x.1=true
  ·rw [if_pos h1] at h
   by_cases h2:x.2=0
   ·rw [if_pos h2] at h;cases h
   ·rw [if_neg h2] at h
    rcases List.mem_cons.1 hy with rfl | hy
    ·exact c4z h1
    ·exact b5D h y hy
  ·rw [if_neg h1] at h;cases h
theorem d3z {t:A7} (h:a40 t=0) (hn:TxN t):TxS t/\t.2.2.2.2.2.length<=16:=by
 obtain⟨n1,n2,n3,n4⟩:=hn
 unfold a40 at h
 by_cases h1:T4 t.1=true
 ·rw [if_pos h1] at h
  by_cases h2:t.2.2.1=0
  ·rw [if_pos h2] at h;cases h
  ·rw [if_neg h2] at h
   by_cases h3:b2T t.2.2.2.2.1=true
   ·rw [if_pos h3] at h
    by_cases h4:t.2.2.2.2.2.length=0
    ·rw [if_pos h4] at h;cases h
    ·rw [if_neg h4] at h
     by_cases h5:16 < t.2.2.2.2.2.length
     ·rw [if_pos h5] at h;cases h
     ·rw [if_neg h5] at h
      have q1:=c4z h1
      have q2:=d0R h3
      exact⟨⟨by omega,n1,n2,n3,by omega,by omega,fun x hx=>⟨by have:=b5D h x hx;omega,n4 x hx⟩⟩,by omega⟩
   ·rw [if_neg h3] at h;cases h
 ·rw [if_neg h1] at h;cases h
def d3A (t:A7):List UInt8 × Int:=if a40 t=0 then(if 4096 < (a3l (txF t)).length then([],3) else(a3l (txF t),0)) else([],a40 t)
theorem b41 {t:A7} (hb:TxB t) (hn:TxN t):J0 t=some (d3A t):=by
 rw [<-L4]
 unfold J0 d3A
 rw [c1n hb,Option.bind_some]
 by_cases h:a40 t=0
 ·have hs:=(d3z h hn).1
  rw [if_pos h]
  simp only [h,c22 hs,C0,B6,A3,decide_eq_true_eq,decide_eq_false_iff_not,Bool.not_eq_true',Bool.not_eq_false']
  refine⟨fun h=>absurd trivial h,fun _=>⟨fun h1=>?_,fun h1=>?_⟩⟩
  ·rw [if_pos (by omega)]
  ·rw [if_neg (by omega)]
 ·rw [if_neg h]
  simp only [C0,B6,A3,decide_eq_true_eq,decide_eq_false_iff_not,Bool.not_eq_true',Bool.not_eq_false']
  exact⟨fun _=>trivial,fun e=>absurd e h⟩
end Go.Proofs.YtbipjlehhlkghaaGreatDoor.Am
namespace Go.Proofs.YtbipjlehhlkghaaGreatDoor.Am
open Go
theorem TxM.n {t:A7} (h:TxM t):TxN t:=by
 obtain⟨h1,h2,h3,h4,h5,h6,h7⟩:=h
 exact⟨h2,⟨by omega,by omega⟩,h4,fun x hx=>by have:=(h7 x hx).2;exact⟨by omega,by omega⟩⟩
end Go.Proofs.YtbipjlehhlkghaaGreatDoor.Am
