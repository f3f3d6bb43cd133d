/- Texts laid together: PForm, PReadT, PCodec, PTxN. No conditions. -/
import Derived.Test.YtbipjlehhlkghaaDoorQAJ
import Derived.Test.YtbipjlehhlkghaaDoorQAK
namespace Go.Proofs.YtbipjlehhlkghaaDoor.Am
open Go
def a4p (n:Int) (s:List UInt8):List Fld:=if s=[] then [] else [⟨n,2,0,s⟩]
def a3i (n:Int) (v:Int):List Fld:=if v=0 then [] else [⟨n,0,v.toNat,[]⟩]
def trF (x:o4):List Fld:=a4p 1 x.1 ++ a3i 2 x.2
def b1V (x:o4):Fld:=⟨6,2,0,Y5 (trF x)⟩
def hdF (t:o8):List Fld:=a4p 1 t.1 ++ (a3i 2 t.2.1 ++ (a3i 3 t.2.2.1 ++ (a3i 4 t.2.2.2.1 ++ a4p 5 t.2.2.2.2.1)))
def txF (t:o8):List Fld:=hdF t ++ t.2.2.2.2.2.map b1V
def TrS (x:o4):Prop:=x.1.length<=10000/\a7g x.2
def TxS (t:o8):Prop:=t.1.length<=10000/\a7g t.2.1/\a7g t.2.2.1/\a7g t.2.2.2.1/\t.2.2.2.2.1.length<=10000/\t.2.2.2.2.2.length<=2000/\∀ x ∈ t.2.2.2.2.2,TrS x
def b0Q (n:Nat) (f:Fld):Prop:=f.ok=true/\f.val < U64/\f.byt.length<=n
theorem Fld.enc_leS {f:Fld} {n:Nat} (h:b0Q n f) (hn:n<=1000000000):f.enc.length<=n + 20:=by
 obtain⟨h1,h2,h3⟩:=h
 have t1:=a1E f.tag (Fld.tag_lt f h1).1
 have t2:=a1E f.val h2
 have t3:=a1E f.byt.length (by unfold U64;omega)
 unfold Fld.enc
 rw [List.length_append]
 split
 ·omega
 ·rw [List.length_append];omega
theorem a8F (a b:List Fld):Y5 (a ++ b)=Y5 a ++ Y5 b:=by unfold Y5;simp
theorem b6a:Y5 []=[]:=rfl
theorem a8G (f:Fld):Y5 [f]=f.enc:=by unfold Y5;simp
theorem b0R {n:Int} {s:List UInt8} {m:Nat} (h1:1<=n) (h2:n<=100) (hs:s.length<=m):∀ f ∈ a4p n s,b0Q m f:=by
 intro f hf
 unfold a4p at hf
 split at hf
 ·cases hf
 ·simp only [List.mem_singleton] at hf;subst hf
  exact⟨by simp [Fld.ok];omega,by unfold U64;simp,hs⟩
theorem a75 {n v:Int} {m:Nat} (h1:1<=n) (h2:n<=100) (hv:a7g v):∀ f ∈ a3i n v,b0Q m f:=by
 intro f hf
 unfold a3i at hf
 unfold a7g at hv
 split at hf
 ·cases hf
 ·simp only [List.mem_singleton] at hf;subst hf
  exact⟨by simp [Fld.ok];omega,by unfold U64;simp only;omega,by simp⟩
theorem a0u (n:Int) (s:List UInt8):(a4p n s).length<=1:=by unfold a4p;split <;> simp
theorem a0v (n v:Int):(a3i n v).length<=1:=by unfold a3i;split <;> simp
theorem a8e {m:Nat} {a b:List Fld} (ha:∀ f ∈ a,b0Q m f) (hb:∀ f ∈ b,b0Q m f):∀ f ∈ a ++ b,b0Q m f:=fun f hf=>by
 rcases List.mem_append.1 hf with hf | hf
 ·exact ha f hf
 ·exact hb f hf
theorem a9B {m:Nat} (hm:m<=1000000000):∀ {l:List Fld},(∀ f ∈ l,b0Q m f)->(Y5 l).length<=l.length * (m + 20)
 | [],_=>by simp [Y5]
 | f :: l,h=>by
  have h1:=Fld.enc_leS (h f (by simp)) hm
  have h2:=a9B hm (l:=l) (fun g hg=>h g (by simp [hg]))
  rw [a1F,List.length_append,List.length_cons,Nat.succ_mul]
  omega
theorem b9K {x:o4} (h:TrS x):∀ f ∈ trF x,b0Q 10000 f:=a8e (b0R (by omega) (by omega) h.1) (a75 (by omega) (by omega) h.2)
theorem c2r {x:o4} (h:TrS x):(Y5 (trF x)).length<=20040:=by
 have h1:=a9B (by omega) (b9K h)
 have h2:=a0u 1 x.1
 have h3:=a0v 2 x.2
 unfold trF at h1 ⊢
 rw [List.length_append] at h1
 omega
theorem b9L {x:o4} (h:TrS x):b0Q 20040 (b1V x):=⟨by simp [b1V,Fld.ok],by unfold U64;simp [b1V],c2r h⟩
theorem c5j {t:o8} (h:TxS t):∀ f ∈ hdF t,b0Q 10000 f:=by
 obtain⟨h1,h2,h3,h4,h5,_⟩:=h
 exact a8e (b0R (by omega) (by omega) h1) (a8e (a75 (by omega) (by omega) h2) (a8e (a75 (by omega) (by omega) h3) (a8e (a75 (by omega) (by omega) h4) (b0R (by omega) (by omega) h5))))
theorem b9M (t:o8):(hdF t).length<=5:=by
 have h1:=a0u 1 t.1
 have h2:=a0v 2 t.2.1
 have h3:=a0v 3 t.2.2.1
 have h4:=a0v 4 t.2.2.2.1
 have h5:=a0u 5 t.2.2.2.2.1
 unfold hdF
 simp only [List.length_append]
 omega
theorem c5k {t:o8} (h:TxS t):(Y5 (hdF t)).length<=50100:=by
 have h1:=a9B (by omega) (c5j h)
 have h2:=b9M t
 omega
theorem b0Q.mono {m n:Nat} (h:m<=n) {f:Fld} (hf:b0Q m f):b0Q n f:=⟨hf.1,hf.2.1,by have:=hf.2.2;omega⟩
theorem c5l {t:o8} (h:TxS t):∀ f ∈ txF t,b0Q 20040 f:=by
 refine a8e (fun f hf=>(c5j h f hf).mono (by omega)) fun f hf=>?_
 obtain⟨x,hx,rfl⟩:=List.mem_map.1 hf
 exact b9L (h.2.2.2.2.2.2 x hx)
theorem b4J {b s:List UInt8} {n:Int} (h1:1<=n) (h2:n<=100) (hb:b.length<=10000000000) (hs:s.length<=1000000):G8 b n s=some (b ++ Y5 (a4p n s)):=by
 rw [<-M9]
 simp only [G8,B7,C6,B6,A0,decide_eq_true_eq,decide_eq_false_iff_not]
 refine⟨fun h=>?_,fun h=>⟨by unfold maxLen;omega,?_⟩⟩
 ·unfold a4p;rw [if_pos h,b6a,List.append_nil]
 ·have hf:b0Q 1000000 (⟨n,2,0,s⟩:Fld):=⟨by simp [Fld.ok];omega,by unfold U64;simp,hs⟩
  have hw:=a7u [] ⟨n,2,0,s⟩ hf.1 hf.2.1 (by simp) (by simp only;omega)
  have hle:=Fld.enc_leS hf (by omega)
  have hw':O0 [] (n,2,(0:Int),s)=some ([] ++ (⟨n,2,0,s⟩:Fld).enc,0):=hw
  rw [hw',A0,List.nil_append]
  dsimp only
  refine⟨⟨by unfold LIM;omega,by unfold LEN;omega⟩,?_⟩
  unfold a4p;rw [if_neg h,a8G]
theorem b1W {b:List UInt8} {n v:Int} (h1:1<=n) (h2:n<=100) (hb:b.length<=10000000000) (hv:a7g v):D8 b n v=some (b ++ Y5 (a3i n v)):=by
 rw [<-M9]
 unfold a7g at hv
 simp only [D8,B7,C6,B6,A0,decide_eq_true_eq,decide_eq_false_iff_not]
 refine⟨fun h=>?_,fun h=>?_⟩
 ·unfold a3i;rw [if_pos h,b6a,List.append_nil]
 ·have hf:b0Q 0 (⟨n,0,v.toNat,[]⟩:Fld):=⟨by simp [Fld.ok];omega,by unfold U64;simp only;omega,by simp⟩
  have hw:=a7u [] ⟨n,0,v.toNat,[]⟩ hf.1 hf.2.1 (by simp) (by simp)
  have hle:=Fld.enc_leS hf (by omega)
  have hw':O0 [] (n,0,v,[])=some ([] ++ (⟨n,0,v.toNat,[]⟩:Fld).enc,0):=by
   rw [<-hw]
   unfold toF
   simp only
   rw [show((v.toNat:Nat):Int)=v by omega]
  rw [hw',A0,List.nil_append]
  dsimp only
  refine⟨⟨by unfold LIM;omega,by unfold LEN;omega⟩,?_⟩
  unfold a3i;rw [if_neg h,a8G]
theorem c3H {b s:List UInt8} {n:Int} (h1:1<=n) (h2:n<=100) (hb:b.length<=10000000000) (hs:s.length<=1000000):M1 b n s=some (b ++ (⟨n,2,0,s⟩:Fld).enc):=by
 rw [<-M9]
 have hf:b0Q 1000000 (⟨n,2,0,s⟩:Fld):=⟨by simp [Fld.ok];omega,by unfold U64;simp,hs⟩
 have hw:=a7u [] ⟨n,2,0,s⟩ hf.1 hf.2.1 (by simp) (by simp only;omega)
 have hle:=Fld.enc_leS hf (by omega)
 have hw':O0 [] (n,2,(0:Int),s)=some ([] ++ (⟨n,2,0,s⟩:Fld).enc,0):=hw
 simp only [M1,hw',C6,B6,A0,decide_eq_true_eq,List.nil_append]
 exact⟨⟨by unfold LIM;omega,by unfold LEN;omega⟩,trivial⟩
theorem b7b {t:o8} (h:TxS t):a2Y t=some (Y5 (txF t)):=by
 rw [<-M9]
 have hh:=h
 obtain⟨h1,h2,h3,h4,h5,h6,h7⟩:=h
 have hle:=c5k hh
 have L:∀ {a b:List UInt8} {n:Nat},(a ++ b).length<=n->a.length<=n:=fun h=>by rw [List.length_append] at h;omega
 have e0:Y5 (hdF t)=((((Y5 (a4p 1 t.1) ++ Y5 (a3i 2 t.2.1)) ++ Y5 (a3i 3 t.2.2.1)) ++ Y5 (a3i 4 t.2.2.2.1)) ++ Y5 (a4p 5 t.2.2.2.2.1)):=by
  unfold hdF;simp only [a8F,List.append_assoc]
 rw [e0] at hle
 have w1:=b4J (b:=[]) (n:=1) (s:=t.1) (by omega) (by omega) (by simp) (by omega)
 rw [List.nil_append] at w1
 have w2:=b1W (b:=Y5 (a4p 1 t.1)) (n:=2) (by omega) (by omega) (by have:=L (L (L (L hle)));omega) h2
 have w3:=b1W (b:=Y5 (a4p 1 t.1) ++ Y5 (a3i 2 t.2.1)) (n:=3) (by omega) (by omega) (by have:=L (L (L hle));omega) h3
 have w4:=b1W (b:=(Y5 (a4p 1 t.1) ++ Y5 (a3i 2 t.2.1)) ++ Y5 (a3i 3 t.2.2.1)) (n:=4) (by omega) (by omega) (by have:=L (L hle);omega) h4
 have w5:=b4J (b:=((Y5 (a4p 1 t.1) ++ Y5 (a3i 2 t.2.1)) ++ Y5 (a3i 3 t.2.2.1)) ++ Y5 (a3i 4 t.2.2.2.1)) (n:=5) (s:=t.2.2.2.2.1) (by omega) (by omega) (by have:=L hle;omega) (by omega)
 unfold a2Y
 rw [w1,Option.bind_some,w2,Option.bind_some,w3,Option.bind_some,w4,Option.bind_some,w5,Option.bind_some,<-e0]
 rw [<-e0] at hle
 unfold a4h
 refine I8 t.2.2.2.2.2 (fun i (b:List UInt8)=>(t.2.2.2.2.2,((t.2.2.2.2.2.length:Nat):Int),((i:Nat):Int),b)) (fun i b=>i<=t.2.2.2.2.2.length/\b=Y5 (hdF t ++ (t.2.2.2.2.2.take i).map b1V)/\b.length<=50100 + i * 20060) (fun i b hi hv=>?_) (fun b hv=>?_) ⟨Nat.zero_le _,by simp,by omega⟩ (by omega)
 ·obtain⟨v1,v2,v3⟩:=hv
  have hx:=h7 _ (List.getElem_mem hi)
  have htl:=c2r hx
  have q1:=b4J (b:=[]) (n:=1) (s:=(t.2.2.2.2.2[i]).1) (by omega) (by omega) (by simp) (by have:=hx.1;omega)
  rw [List.nil_append] at q1
  have e1:Y5 (trF t.2.2.2.2.2[i])=Y5 (a4p 1 (t.2.2.2.2.2[i]).1) ++ Y5 (a3i 2 (t.2.2.2.2.2[i]).2):=by unfold trF;rw [a8F]
  have q2:=b1W (b:=Y5 (a4p 1 (t.2.2.2.2.2[i]).1)) (n:=2) (by omega) (by omega) (by rw [e1] at htl;have:=L htl;omega) hx.2
  rw [<-e1] at q2
  have q3:=c3H (b:=b) (n:=6) (s:=Y5 (trF t.2.2.2.2.2[i])) (by omega) (by omega) (by omega) (by omega)
  have q4:=Fld.enc_leS (b9L hx) (by omega)
  simp only [a0Q,B7,C6,B6,A0,A8,A6,decide_eq_true_eq,decide_eq_false_iff_not,Int.toNat_natCast,E6 hi,q1,q2,q3,H0 (i:=i) (by omega)]
  refine⟨fun _=>⟨by omega,_,rfl,by omega,?_,?_⟩,fun hc=>absurd hc (by omega)⟩
  ·rw [W6 hi,List.map_append,<-List.append_assoc,a8F,<-v2,List.map_cons,List.map_nil,a8G];rfl
  ·rw [List.length_append,Nat.succ_mul]
   have q4':(⟨6,2,0,Y5 (trF t.2.2.2.2.2[i])⟩:Fld).enc.length<=20040 + 20:=q4
   omega
 ·obtain⟨v1,v2,v3⟩:=hv
  simp only [a0Q,B7,C6,B6,A0,A8,A6,decide_eq_true_eq,decide_eq_false_iff_not,Int.toNat_natCast]
  refine⟨fun hc=>absurd hc (by omega),fun _=>?_⟩
  rw [v2,List.take_length];rfl
theorem b1X {l:List o6} {n:Int} {s:List UInt8} (hl:l.length<=100000) (hs:s.length<=1000000):I0 l n s=some (l ++ (a4p n s).map toF):=by
 rw [<-M9]
 simp only [I0,B7,C6,A0,decide_eq_true_eq,decide_eq_false_iff_not]
 refine⟨fun h=>?_,fun h=>⟨by unfold maxLen;omega,⟨by unfold LIM;omega,by unfold LEN;omega⟩,?_⟩⟩
 ·unfold a4p;rw [if_pos h,List.map_nil,List.append_nil]
 ·unfold a4p;rw [if_neg h];rfl
theorem a3K {l:List o6} {n v:Int} (hl:l.length<=100000) (hv:a7g v):D7 l n v=some (l ++ (a3i n v).map toF):=by
 rw [<-M9]
 unfold a7g at hv
 simp only [D7,B7,C6,A0,decide_eq_true_eq,decide_eq_false_iff_not]
 refine⟨fun h=>?_,fun h=>⟨⟨by unfold LIM;omega,by unfold LEN;omega⟩,?_⟩⟩
 ·unfold a3i;rw [if_pos h,List.map_nil,List.append_nil]
 ·unfold a3i;rw [if_neg h]
  simp only [List.map_cons,List.map_nil,toF]
  rw [show((v.toNat:Nat):Int)=v by omega]
theorem a7w {l:List Fld} {m:Nat} (hm:m<=1000000) (h:∀ f ∈ l,b0Q m f) (hl:l.length<=10000):D2 (l.map toF)=some (Y5 l):=by
 rw [<-M9]
 unfold D2 a0l
 have hlen:(l.map toF).length=l.length:=List.length_map ..
 refine I8 (l.map toF) (fun i (b:List UInt8)=>(l.map toF,(((l.map toF).length:Nat):Int),((i:Nat):Int),b)) (fun i b=>i<=l.length/\b=Y5 (l.take i)/\b.length<=i * 1000020) (fun i b hi hv=>?_) (fun b hv=>?_) ⟨Nat.zero_le _,by simp [Y5],by simp⟩ (by omega)
 ·obtain⟨v1,v2,v3⟩:=hv
  have hi':i < l.length:=by omega
  have hf:=h _ (List.getElem_mem hi')
  have q:=b9J b l[i] hf.1 hf.2.1 (by omega) (by have:=hf.2.2;omega)
  have q2:=Fld.enc_leS hf (by omega)
  have q3:List.getD (l.map toF) i A5=toF l[i]:=by rw [E6 hi,List.getElem_map]
  simp only [M0,B7,C6,B6,A0,A8,A6,decide_eq_true_eq,decide_eq_false_iff_not,Int.toNat_natCast,q3,q,H0 (i:=i) (by omega)]
  refine⟨fun _=>⟨by omega,_,rfl,by omega,?_,?_⟩,fun hc=>absurd hc (by omega)⟩
  ·rw [W6 hi',a8F,<-v2,a8G]
  ·rw [List.length_append,Nat.succ_mul];omega
 ·obtain⟨v1,v2,v3⟩:=hv
  simp only [M0,B7,C6,B6,A0,A8,A6,decide_eq_true_eq,decide_eq_false_iff_not,Int.toNat_natCast]
  refine⟨fun hc=>absurd hc (by omega),fun _=>?_⟩
  rw [v2,hlen,List.take_length]
theorem b9N {t:o8} (h:TxS t):O9 t=some (Y5 (txF t)):=by
 rw [<-M9]
 have hh:=h
 obtain⟨h1,h2,h3,h4,h5,h6,h7⟩:=h
 have hn:=b9M t
 have e0:(hdF t).map toF=(((((a4p 1 t.1).map toF ++ (a3i 2 t.2.1).map toF) ++ (a3i 3 t.2.2.1).map toF) ++ (a3i 4 t.2.2.2.1).map toF) ++ (a4p 5 t.2.2.2.2.1).map toF):=by
  unfold hdF;simp only [List.map_append,List.append_assoc]
 have hle:(((((a4p 1 t.1).map toF ++ (a3i 2 t.2.1).map toF) ++ (a3i 3 t.2.2.1).map toF) ++ (a3i 4 t.2.2.2.1).map toF) ++ (a4p 5 t.2.2.2.2.1).map toF).length<=5:=by rw [<-e0,List.length_map];exact hn
 have L:∀ {a b:List o6} {n:Nat},(a ++ b).length<=n->a.length<=n:=fun h=>by rw [List.length_append] at h;omega
 have w1:=b1X (l:=[]) (n:=1) (s:=t.1) (by simp) (by omega)
 rw [List.nil_append] at w1
 have w2:=a3K (l:=(a4p 1 t.1).map toF) (n:=2) (by have:=L (L (L (L hle)));omega) h2
 have w3:=a3K (l:=(a4p 1 t.1).map toF ++ (a3i 2 t.2.1).map toF) (n:=3) (by have:=L (L (L hle));omega) h3
 have w4:=a3K (l:=((a4p 1 t.1).map toF ++ (a3i 2 t.2.1).map toF) ++ (a3i 3 t.2.2.1).map toF) (n:=4) (by have:=L (L hle);omega) h4
 have w5:=b1X (l:=(((a4p 1 t.1).map toF ++ (a3i 2 t.2.1).map toF) ++ (a3i 3 t.2.2.1).map toF) ++ (a3i 4 t.2.2.2.1).map toF) (n:=5) (s:=t.2.2.2.2.1) (by have:=L hle;omega) (by omega)
 unfold O9
 rw [w1,Option.bind_some,w2,Option.bind_some,w3,Option.bind_some,w4,Option.bind_some,w5,Option.bind_some,<-e0]
 unfold a0O
 refine I8 t.2.2.2.2.2 (fun i (b:List o6)=>(t.2.2.2.2.2,((t.2.2.2.2.2.length:Nat):Int),((i:Nat):Int),b)) (fun i b=>i<=t.2.2.2.2.2.length/\b=(hdF t ++ (t.2.2.2.2.2.take i).map b1V).map toF) (fun i b hi hv=>?_) (fun b hv=>?_) ⟨Nat.zero_le _,by simp⟩ (by omega)
 ·obtain⟨v1,v2⟩:=hv
  have hx:=h7 _ (List.getElem_mem hi)
  have q1:=b1X (l:=[]) (n:=1) (s:=(t.2.2.2.2.2[i]).1) (by simp) (by have:=hx.1;omega)
  rw [List.nil_append] at q1
  have q2:=a3K (l:=(a4p 1 (t.2.2.2.2.2[i]).1).map toF) (n:=2) (by rw [List.length_map];have:=a0u 1 (t.2.2.2.2.2[i]).1;omega) hx.2
  rw [<-List.map_append] at q2
  have q3:=a7w (l:=trF t.2.2.2.2.2[i]) (by omega) (b9K hx) (by unfold trF;rw [List.length_append];have:=a0u 1 (t.2.2.2.2.2[i]).1;have:=a0v 2 (t.2.2.2.2.2[i]).2;omega)
  have q3':D2 (List.map toF (a4p 1 (t.2.2.2.2.2[i]).1 ++ a3i 2 (t.2.2.2.2.2[i]).2))=some (Y5 (trF t.2.2.2.2.2[i])):=q3
  have hbl:b.length<=5 + i:=by
   rw [v2,List.length_map,List.length_append,List.length_map,List.length_take];omega
  simp only [P2,B7,C6,B6,A0,C1,A8,A6,decide_eq_true_eq,decide_eq_false_iff_not,Int.toNat_natCast,E6 hi,q1,q2,q3',H0 (i:=i) (by omega)]
  refine⟨fun _=>⟨by omega,⟨by unfold LIM;omega,by unfold LEN;omega⟩,_,rfl,by omega,?_⟩,fun hc=>absurd hc (by omega)⟩
  rw [W6 hi,List.map_append (f:=b1V),<-List.append_assoc,List.map_append (f:=toF),<-v2];rfl
 ·obtain⟨v1,v2⟩:=hv
  rw [List.take_length] at v2
  have q:=a7w (l:=txF t) (by omega) (c5l hh) (by unfold txF;rw [List.length_append,List.length_map];omega)
  have q':D2 b=some (Y5 (txF t)):=by rw [v2];exact q
  simp only [P2,B7,C6,B6,A0,C1,A8,A6,decide_eq_true_eq,decide_eq_false_iff_not,Int.toNat_natCast,q']
  exact⟨fun hc=>absurd hc (by omega),fun _=>trivial⟩
end Go.Proofs.YtbipjlehhlkghaaDoor.Am
namespace Go.Proofs.YtbipjlehhlkghaaDoor.Am
open Go
def b3w (x:o4) (f:Fld):o4:=if f.num=1 then(f.byt,x.2) else if f.num=2 then(x.1,((f.val:Nat):Int)) else x
def a8f (b:List UInt8):o4:=(a3I b).1.foldl b3w ([],0)
def a4V (t:o8) (f:Fld):o8:=
 if f.num=1 then(f.byt,t.2) else if f.num=2 then(t.1,((f.val:Nat):Int),t.2.2) else if f.num=3 then(t.1,t.2.1,((f.val:Nat):Int),t.2.2.2)
 else if f.num=4 then(t.1,t.2.1,t.2.2.1,((f.val:Nat):Int),t.2.2.2.2) else if f.num=5 then(t.1,t.2.1,t.2.2.1,t.2.2.2.1,f.byt,t.2.2.2.2.2)
 else if f.num=6 then(t.1,t.2.1,t.2.2.1,t.2.2.2.1,t.2.2.2.2.1,t.2.2.2.2.2 ++ [a8f f.byt]) else t
def a0p:o8:=([],0,0,0,[],[])
def b2h (l:List Fld):o8:=l.foldl a4V a0p
theorem a67 (b:List UInt8):(a3I b).1.length<=1024:=by
 have h:=b53 b
 by_cases h0:(a3I b).2.2=0
 ·exact(h.1 h0).2.2.2
 ·rw [(h.2 h0).1];simp
theorem b4K (b:List UInt8) (hb:b.length<=1000000000000):a0P b=some (a8f b):=by
 rw [<-M9]
 have hl:=a67 b
 unfold a0P a8f
 rw [a37 b hb,Option.bind_some]
 generalize (a3I b).1=l at *
 unfold a3s
 have hm:(l.map toF).length=l.length:=List.length_map ..
 refine I8 (l.map toF) (fun i (x:o4)=>((((l.map toF).length:Nat):Int),((i:Nat):Int),(([],(0:Int)):o4),x,l.map toF)) (fun i x=>(l.drop i).foldl b3w x=l.foldl b3w ([],0)) (fun i x hi hv=>?_) (fun x hv=>?_) rfl (by omega)
 ·have hi':i < l.length:=by omega
  have q3:List.getD (l.map toF) i A5=toF l[i]:=by rw [E6 hi,List.getElem_map]
  have qn:(toF l[i]).1=l[i].num:=rfl
  rw [List.drop_eq_getElem_cons hi',List.foldl_cons] at hv
  simp only [a0q,B7,C6,A0,A8,A6,decide_eq_true_eq,decide_eq_false_iff_not,Int.toNat_natCast,q3,qn,H0 (i:=i) (by omega)]
  refine⟨fun _=>⟨by omega,by omega,fun h1=>⟨_,rfl,?_⟩,fun h1=>⟨fun h2=>⟨_,rfl,?_⟩,fun h2=>⟨_,rfl,?_⟩⟩⟩,fun hc=>absurd hc (by omega)⟩
  ·rw [<-hv];congr 1;unfold b3w;rw [if_pos h1];rfl
  ·rw [<-hv];congr 1;unfold b3w;rw [if_neg h1,if_pos h2];rfl
  ·rw [<-hv];congr 1;unfold b3w;rw [if_neg h1,if_neg h2]
 ·simp only [a0q,B7,C6,A0,A8,A6,decide_eq_true_eq,decide_eq_false_iff_not,Int.toNat_natCast]
  refine⟨fun hc=>absurd hc (by omega),fun _=>?_⟩
  rw [hm,List.drop_length] at hv
  exact hv
theorem b1Y (l:List Fld) (hl:l.length<=2000) (hb:∀ f ∈ l,f.byt.length<=1000000000000):a6M (l.map toF)=some (b2h l):=by
 rw [<-M9]
 have hm:(l.map toF).length=l.length:=List.length_map ..
 unfold a6M a6L
 refine I8 (l.map toF) (fun i (t:o8)=>(l.map toF,(((l.map toF).length:Nat):Int),((i:Nat):Int),([]:List UInt8),(0:Int),(0:Int),(0:Int),([]:List UInt8),t.1,t.2.1,t.2.2.1,t.2.2.2.1,t.2.2.2.2.1,t.2.2.2.2.2)) (fun i t=>(l.drop i).foldl a4V t=b2h l/\t.2.2.2.2.2.length<=i) (fun i t hi hv=>?_) (fun t hv=>?_) (b0:=a0p) ⟨rfl,by simp [a0p]⟩ (by omega)
 ·obtain⟨hv,hlt⟩:=hv
  have hi':i < l.length:=by omega
  have q3:List.getD (l.map toF) i A5=toF l[i]:=by rw [E6 hi,List.getElem_map]
  have ht:=b4K l[i].byt (hb _ (List.getElem_mem hi'))
  have ht':a0P (toF l[i]).2.2.2=some (a8f l[i].byt):=ht
  have qn:(toF l[i]).1=l[i].num:=rfl
  rw [List.drop_eq_getElem_cons hi',List.foldl_cons] at hv
  simp only [a2V,B7,C6,B6,A0,A8,A6,decide_eq_true_eq,decide_eq_false_iff_not,Int.toNat_natCast,q3,H0 (i:=i) (by omega),ht',qn]
  refine⟨fun _=>⟨by omega,fun h1=>?_,fun h1=>⟨fun h2=>?_,fun h2=>⟨fun h3=>?_,fun h3=>⟨fun h4=>?_,fun h4=>⟨fun h5=>?_,fun h5=>⟨fun h6=>⟨⟨by unfold LIM;omega,by unfold LEN;omega⟩,?_⟩,fun h6=>?_⟩⟩⟩⟩⟩⟩,fun hc=>absurd hc (by omega)⟩
  ·refine⟨a4V t l[i],?_,hv,?_⟩ <;> (unfold a4V;rw [if_pos h1])
   ·rfl
   ·exact Nat.le_succ_of_le hlt
  ·refine⟨a4V t l[i],?_,hv,?_⟩ <;> (unfold a4V;rw [if_neg h1,if_pos h2])
   ·rfl
   ·exact Nat.le_succ_of_le hlt
  ·refine⟨a4V t l[i],?_,hv,?_⟩ <;> (unfold a4V;rw [if_neg h1,if_neg h2,if_pos h3])
   ·rfl
   ·exact Nat.le_succ_of_le hlt
  ·refine⟨a4V t l[i],?_,hv,?_⟩ <;> (unfold a4V;rw [if_neg h1,if_neg h2,if_neg h3,if_pos h4])
   ·rfl
   ·exact Nat.le_succ_of_le hlt
  ·refine⟨a4V t l[i],?_,hv,?_⟩ <;> (unfold a4V;rw [if_neg h1,if_neg h2,if_neg h3,if_neg h4,if_pos h5])
   ·rfl
   ·exact Nat.le_succ_of_le hlt
  ·refine⟨a4V t l[i],?_,hv,?_⟩ <;> (unfold a4V;rw [if_neg h1,if_neg h2,if_neg h3,if_neg h4,if_neg h5,if_pos h6])
   simp only [List.length_append,List.length_cons,List.length_nil];omega
  ·refine⟨a4V t l[i],?_,hv,?_⟩ <;> (unfold a4V;rw [if_neg h1,if_neg h2,if_neg h3,if_neg h4,if_neg h5,if_neg h6])
   exact Nat.le_succ_of_le hlt
 ·obtain⟨hv,_⟩:=hv
  simp only [a2V,B7,C6,B6,A0,A8,A6,decide_eq_true_eq,decide_eq_false_iff_not,Int.toNat_natCast]
  refine⟨fun hc=>absurd hc (by omega),fun _=>?_⟩
  rw [hm,List.drop_length] at hv
  exact hv
theorem c1B {v:Int} (h:a7g v):((v.toNat:Nat):Int)=v:=by unfold a7g at h;omega
theorem b9O {x:o4} (h:TrS x):a8f (Y5 (trF x))=x:=by
 have hs:=b9K h
 have hl:(trF x).length<=2:=by unfold trF;rw [List.length_append];have:=a0u 1 x.1;have:=a0v 2 x.2;omega
 unfold a8f
 rw [a9x _ (by omega) (fun f hf=>⟨(hs f hf).1,(hs f hf).2.1,by have:=(hs f hf).2.2;unfold U64;omega⟩)]
 obtain⟨s,v⟩:=x
 have hv:=c1B h.2
 simp only at hv
 unfold trF a4p a3i
 by_cases h1:s=[] <;> by_cases h2:v=0 <;> simp [h1,h2,b3w,hv]
end Go.Proofs.YtbipjlehhlkghaaDoor.Am
namespace Go.Proofs.YtbipjlehhlkghaaDoor.Am
open Go
theorem b3j {s:List UInt8}:∀ (f p k:Nat),a6h s f p k=true->k<=64/\s.length<=p + 4 * (64 - k)
 | 0,p,k,h=>by simp [a6h] at h
 | f + 1,p,k,h=>by
  unfold a6h at h
  by_cases h1:p < s.length
  ·rw [if_pos h1] at h
   by_cases h2:a3d s p=0
   ·rw [if_pos h2] at h;cases h
   ·rw [if_neg h2] at h
    have ih:=b3j f _ _ h
    have hw:=b1U s p
    omega
  ·rw [if_neg h1,decide_eq_true_eq] at h
   omega
theorem c1C {s:List UInt8} (h:a5O s=true):s.length<=260:=by
 have:=(b3j _ _ _ h).2;omega
theorem b6b {s:List UInt8} (h:X2 s=true):s.length<=20:=by
 unfold X2 at h
 rw [Bool.and_eq_true,decide_eq_true_eq] at h
 exact h.2.2
def TxN (t:o8):Prop:=a7g t.2.1/\a7g t.2.2.1/\a7g t.2.2.2.1/\∀ x ∈ t.2.2.2.2.2,a7g x.2
theorem a76:∀ {l:List o4},a25 l=0->∀ x ∈ l,x.1.length<=20
 | x :: l,h,y,hy=>by
  unfold a25 at h
  by_cases h1:X2 x.1=true
  ·rw [if_pos h1] at h
   by_cases h2:x.2=0
   ·rw [if_pos h2] at h;cases h
   ·rw [if_neg h2] at h
    rcases List.mem_cons.1 hy with rfl | hy
    ·exact b6b h1
    ·exact a76 h y hy
  ·rw [if_neg h1] at h;cases h
theorem c3I {t:o8} (h:a1l t=0) (hn:TxN t):TxS t/\t.2.2.2.2.2.length<=16:=by
 obtain⟨n1,n2,n3,n4⟩:=hn
 unfold a1l at h
 by_cases h1:X2 t.1=true
 ·rw [if_pos h1] at h
  by_cases h2:t.2.2.1=0
  ·rw [if_pos h2] at h;cases h
  ·rw [if_neg h2] at h
   by_cases h3:a5O t.2.2.2.2.1=true
   ·rw [if_pos h3] at h
    by_cases h4:t.2.2.2.2.2.length=0
    ·rw [if_pos h4] at h;cases h
    ·rw [if_neg h4] at h
     by_cases h5:16 < t.2.2.2.2.2.length
     ·rw [if_pos h5] at h;cases h
     ·rw [if_neg h5] at h
      have q1:=b6b h1
      have q2:=c1C h3
      exact⟨⟨by omega,n1,n2,n3,by omega,by omega,fun x hx=>⟨by have:=a76 h x hx;omega,n4 x hx⟩⟩,by omega⟩
   ·rw [if_neg h3] at h;cases h
 ·rw [if_neg h1] at h;cases h
def c3J (t:o8):List UInt8 × Int:=if a1l t=0 then(if 4096 < (Y5 (txF t)).length then([],3) else(Y5 (txF t),0)) else([],a1l t)
theorem b7c {t:o8} (hb:TxB t) (hn:TxN t):J0 t=some (c3J t):=by
 rw [<-M9]
 unfold J0 c3J
 rw [b3i hb,Option.bind_some]
 by_cases h:a1l t=0
 ·have hs:=(c3I h hn).1
  rw [if_pos h]
  simp only [h,b9N hs,B7,B6,A0,decide_eq_true_eq,decide_eq_false_iff_not,Bool.not_eq_true',Bool.not_eq_false']
  refine⟨fun h=>absurd trivial h,fun _=>⟨fun h1=>?_,fun h1=>?_⟩⟩
  ·rw [if_pos (by omega)]
  ·rw [if_neg (by omega)]
 ·rw [if_neg h]
  simp only [B7,B6,A0,decide_eq_true_eq,decide_eq_false_iff_not,Bool.not_eq_true',Bool.not_eq_false']
  exact⟨fun _=>trivial,fun e=>absurd e h⟩
end Go.Proofs.YtbipjlehhlkghaaDoor.Am
namespace Go.Proofs.YtbipjlehhlkghaaDoor.Am
open Go
theorem TxM.n {t:o8} (h:TxM t):TxN t:=by
 obtain⟨h1,h2,h3,h4,h5,h6,h7⟩:=h
 exact⟨h2,⟨by omega,by omega⟩,h4,fun x hx=>by have:=(h7 x hx).2;exact⟨by omega,by omega⟩⟩
end Go.Proofs.YtbipjlehhlkghaaDoor.Am
