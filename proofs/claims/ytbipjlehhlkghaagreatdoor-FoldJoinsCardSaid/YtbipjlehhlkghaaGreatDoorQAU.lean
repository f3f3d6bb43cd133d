/- Texts laid together: PDigB, PFold. No conditions. -/
import Derived.Test.YtbipjlehhlkghaaGreatDoorQAT
import Derived.Test.YtbipjlehhlkghaaGreatDoorQAR
import Derived.Test.YtbipjlehhlkghaaGreatDoorQAP
namespace Go.Proofs.YtbipjlehhlkghaaGreatDoor.Am
open Go
theorem c86 (a:List UInt8) (n:Int):U4 a n=F9 a n:=by
 have h:a5s=P8:=by kernel_rfl
 unfold U4 F9 a70 V6
 rw [h,Nat.zero_add]
theorem d1q (op:BinOp) (a b:Int):0<=bits op .u8 a b/\bits op .u8 a b < 256:=by
 unfold bits
 rw [IntKind.wrap_u8]
 omega
theorem b7r {a:List UInt8} {n:Int} (h0:0<=n) (h1:n < 18446744073709551616) (hl:a.length<=140737488355300):Ok (F9 a n) fun r=>r.length<=a.length + 10:=by
 unfold F9
 rw [decide_eq_true ⟨by unfold LIM;omega,by unfold LEN;omega⟩,C4]
 unfold V6
 refine Q7 (fun k v=>∃ (i m:Nat) (l:List UInt8),v=((m:Int),l)/\i<=9/\k=10 - i/\l.length=a.length + i/\m < 2 ^ (64 - 7 * i)) ?_ (n:=10) ⟨0,n.toNat,a,by rw [Int.toNat_of_nonneg h0],by omega,rfl,rfl,by omega⟩ (by omega)
 rintro k v ⟨i,m,l,rfl,hi,rfl,hll,hm⟩
 unfold P8
 dsimp only
 rw [C0]
 refine⟨fun hc=>?_,fun hc=>?_⟩
 ·have hc:=of_decide_eq_true hc
  have hi8:i<=8:=by
   rcases Nat.lt_or_ge 8 i with h | h
   ·have e:i=9:=by omega
    subst e
    simp only [Nat.reduceMul,Nat.reduceSub,Nat.reducePow] at hm
    omega
   ·exact h
  have hdiv:m / 2 ^ 7 < 2 ^ (64 - 7 * (i + 1)):=by
   refine Nat.div_lt_of_lt_mul ?_
   rw [<-Nat.pow_add,show 7 + (64 - 7 * (i + 1))=64 - 7 * i by omega]
   exact hm
  rw [decide_eq_true (d1q _ _ _),C4,decide_eq_true ⟨by unfold LIM;omega,by unfold LEN;omega⟩,C4,A3,B4,b9K]
  exact⟨10 - (i + 1),by omega,i + 1,m / 2 ^ 7,_,rfl,by omega,rfl,by rw [List.length_append,List.length_singleton];omega,hdiv⟩
 ·rw [D5]
  unfold a0b
  rw [decide_eq_true (a5R _),C4,decide_eq_true ⟨by unfold LIM;omega,by unfold LEN;omega⟩,C4,A3,B8,List.length_append,List.length_singleton]
  omega
def d6r (f:A1):Prop:=(1<=f.1/\f.1<=100)/\(f.2.1=0\/f.2.1=2)/\(0<=f.2.2.1/\f.2.2.1 < 18446744073709551616)
theorem c1C (a:List UInt8) {f:A1} (h:d6r f):K0 a f=J2 a f:=by
 obtain⟨n,k,v,b⟩:=f
 obtain⟨⟨h1,h2⟩,h3,_⟩:=h
 dsimp only at h1 h2 h3
 have hv:a5b=L9:=by kernel_rfl
 have ht:B1 (A5 (A5 (8 * n) + k))=B1 (B1 (B1 n * 8) + B1 k):=by
  have hk:0<=k/\k<=2:=by omega
  rw [E0 (n:=8 * n) (by omega) (by omega),E0 (by omega) (by omega),K9 (n:=n) (by omega) (by omega),K9 (n:=n * 8) (by omega) (by omega),K9 (n:=k) (by omega) (by omega)]
  congr 1
  omega
 unfold K0 J2 a9w
 dsimp only
 rw [hv,Option.bind_some,ht]
 simp only [c86]
theorem d1r (f:A1):Ok (L9 f) fun _=>True:=by
 unfold L9
 simp only [C0,A3]
 refine⟨fun _=>trivial,fun _=>⟨fun _=>trivial,fun _=>⟨fun _=>⟨fun _=>trivial,fun _=>⟨fun _=>trivial,fun _=>trivial⟩⟩,fun _=>⟨fun _=>trivial,fun _=>trivial⟩⟩⟩⟩
theorem c1D {a:List UInt8} {f:A1} (h:d6r f) (hl:a.length + f.2.2.2.length<=140737488355100):Ok (J2 a f) fun r=>r.1.length<=a.length + f.2.2.2.length + 20:=by
 unfold J2
 rw [B6]
 refine(d1r f).mono fun r1 _=>?_
 rw [C0]
 refine⟨fun _=>?_,fun _=>?_⟩
 ·rw [A3];exact Nat.zero_le _
 rw [B6]
 have hw:=I7 (B1 (B1 f.1 * 8) + B1 f.2.1)
 refine(b7r hw.1 hw.2 (by omega)).mono fun r2 h2=>?_
 rw [C0]
 refine⟨fun _=>?_,fun _=>?_⟩
 ·rw [B6]
  refine(b7r h.2.2.1 h.2.2.2 (by omega)).mono fun r3 h3=>?_
  rw [A3]
  dsimp only
  omega
 ·rw [B6]
  have hw:=I7 (((List.length f.2.2.2):Nat):Int)
  refine(b7r hw.1 hw.2 (by omega)).mono fun r3 h3=>?_
  rw [decide_eq_true ⟨by unfold LIM;omega,by unfold LEN;omega⟩,C4,A3]
  dsimp only
  rw [List.length_append]
  omega
end Go.Proofs.YtbipjlehhlkghaaGreatDoor.Am
namespace Go.Proofs.YtbipjlehhlkghaaGreatDoor.Am
open Go
def b91 (l:List (List UInt8)):Prop:=l.length<=1000/\∀ r ∈ l,r.length<=1000000
theorem c87 {g:o6} (hl:g.1.length<=4398046511000):a2Q g=some g:=by
 unfold a2Q
 rw [c08 hl];rfl
theorem b2a {g:o6} {p:Int} {l:List (List UInt8)} (hg:b4U g) (hp:okU p) (hr:b91 l):a5e g p l=some (a4q g p l):=by
 obtain⟨hl,hr⟩:=hr
 rw [<-L4]
 unfold a5e
 rw [c87 hg.2.2.2,Option.bind_some]
 unfold b2K
 refine E7 l (fun i (b:o6 × List A6)=>(p,l,((l.length:Nat):Int),((i:Nat):Int),b.1,([],(0:Int)),b.2)) (fun i b=>b=a4q g p (l.take i)) (fun i b hi hv=>?_) (fun b hv=>?_) (b0:=(g,[])) rfl (by omega)
 ·have hb:=(b4y (p:=p) (l:=l.take i) hg).1
  have hn:=a4K p (l.take i) g
  rw [<-hv] at hb hn
  rw [List.length_take] at hn
  unfold a7K
  dsimp only
  rw [decide_eq_true (by omega:(i:Int) < ((l.length:Nat):Int)),E4,decide_eq_true (by omega:(0:Int)<=(i:Int)/\(i:Int) < ((l.length:Nat):Int)),C4,Int.toNat_natCast,D8 hi,b1w hb hp (hr _ (List.getElem_mem hi)),Option.bind_some,decide_eq_true ⟨by unfold LIM;omega,by unfold LEN;omega⟩,C4,A3,B4,E2 (by omega)]
  exact⟨((V3 b.1 p l[i]).1,b.2 ++ [(V3 b.1 p l[i]).2]),rfl,by rw [a8t hi,<-hv]⟩
 ·rw [List.take_length] at hv
  unfold a7K b0d
  dsimp only
  rw [decide_eq_false (by omega),C6,Option.map_some,A3,B8,hv]
theorem c1E {g:o6} {p:Int} {l:List (List UInt8)} (hg:b4U g) (hp:okU p) (hr:b91 l):a1j g p l=some (a4q g p l):=by
 obtain⟨hl,hr⟩:=hr
 rw [<-L4]
 unfold a1j a52
 refine E7 l (fun i (b:o6 × List A6)=>(p,l,((l.length:Nat):Int),((i:Nat):Int),b.1,([],(0:Int)),b.2)) (fun i b=>b=a4q g p (l.take i)) (fun i b hi hv=>?_) (fun b hv=>?_) (b0:=(g,[])) rfl (by omega)
 ·have hb:=(b4y (p:=p) (l:=l.take i) hg).1
  have hn:=a4K p (l.take i) g
  rw [<-hv] at hb hn
  rw [List.length_take] at hn
  unfold a1i
  dsimp only
  rw [decide_eq_true (by omega:(i:Int) < ((l.length:Nat):Int)),E4,decide_eq_true (by omega:(0:Int)<=(i:Int)/\(i:Int) < ((l.length:Nat):Int)),C4,Int.toNat_natCast,D8 hi,b8G hb hp (hr _ (List.getElem_mem hi)),Option.bind_some,decide_eq_true ⟨by unfold LIM;omega,by unfold LEN;omega⟩,C4,A3,B4,E2 (by omega)]
  exact⟨((V3 b.1 p l[i]).1,b.2 ++ [(V3 b.1 p l[i]).2]),rfl,by rw [a8t hi,<-hv]⟩
 ·rw [List.take_length] at hv
  unfold a1i a3C
  dsimp only
  rw [decide_eq_false (by omega),C6,Option.map_some,A3,B8,hv]
theorem b7s {g:o6} {p:Int} {l:List (List UInt8)} (hg:b4U g) (hp:okU p) (hr:b91 l):a3V g p l=some (c6i g p l):=by
 obtain⟨hl,hr⟩:=hr
 rw [<-L4]
 unfold a3V
 rw [c87 hg.2.2.2,Option.bind_some]
 unfold a9z
 refine E7 l (fun i (b:o6)=>(p,l,((l.length:Nat):Int),((i:Nat):Int),b)) (fun i b=>b=(a4q g p (l.take i)).1/\∀ r ∈ (a4q g p (l.take i)).2,r.1=0) (fun i b hi hv=>?_) (fun b hv=>?_) (b0:=g) ⟨rfl,fun r h=>(by cases h)⟩ (by omega)
 ·obtain⟨hv,hz⟩:=hv
  have hb:=(b4y (p:=p) (l:=l.take i) hg).1
  rw [<-hv] at hb
  unfold a4G
  dsimp only
  rw [decide_eq_true (by omega:(i:Int) < ((l.length:Nat):Int)),E4,decide_eq_true (by omega:(0:Int)<=(i:Int)/\(i:Int) < ((l.length:Nat):Int)),C4,Int.toNat_natCast,D8 hi,b1w hb hp (hr _ (List.getElem_mem hi)),Option.bind_some]
  by_cases h0:(V3 b p l[i]).2.1=0
  ·rw [decide_eq_true h0,Bool.not_true,C6,A3,B4,E2 (by omega)]
   refine⟨_,rfl,by rw [a8t hi,<-hv],fun r hr=>?_⟩
   rw [a8t hi] at hr
   rcases List.mem_append.1 hr with hr | hr
   ·exact hz r hr
   ·rw [List.mem_singleton.1 hr,<-hv];exact h0
  ·rw [decide_eq_false h0,Bool.not_false,E4,A3,B8]
   rw [hv] at h0 ⊢
   exact(c8S hi hz h0).symm
 ·obtain⟨hv,hz⟩:=hv
  rw [List.take_length] at hv hz
  unfold a4G a67
  dsimp only
  rw [decide_eq_false (by omega),C6,Option.map_some,A3,B8,d2j hz,hv]
theorem c57 {g:o6} {p:Int} {l:List (List UInt8)} (hg:b4U g) (hp:okU p) (hr:b91 l):a1k g p l=some (c6i g p l):=by
 obtain⟨hl,hr⟩:=hr
 rw [<-L4]
 unfold a1k a4y
 refine E7 l (fun i (b:o6)=>(p,l,((l.length:Nat):Int),((i:Nat):Int),b,([],(0:Int)))) (fun i b=>b=(a4q g p (l.take i)).1/\∀ r ∈ (a4q g p (l.take i)).2,r.1=0) (fun i b hi hv=>?_) (fun b hv=>?_) (b0:=g) ⟨rfl,fun r h=>(by cases h)⟩ (by omega)
 ·obtain⟨hv,hz⟩:=hv
  have hb:=(b4y (p:=p) (l:=l.take i) hg).1
  rw [<-hv] at hb
  unfold W6
  dsimp only
  rw [decide_eq_true (by omega:(i:Int) < ((l.length:Nat):Int)),E4,decide_eq_true (by omega:(0:Int)<=(i:Int)/\(i:Int) < ((l.length:Nat):Int)),C4,Int.toNat_natCast,D8 hi,b8G hb hp (hr _ (List.getElem_mem hi)),Option.bind_some]
  by_cases h0:(V3 b p l[i]).2.1=0
  ·rw [decide_eq_true h0,Bool.not_true,C6,A3,B4,E2 (by omega)]
   refine⟨_,rfl,by rw [a8t hi,<-hv],fun r hr=>?_⟩
   rw [a8t hi] at hr
   rcases List.mem_append.1 hr with hr | hr
   ·exact hz r hr
   ·rw [List.mem_singleton.1 hr,<-hv];exact h0
  ·rw [decide_eq_false h0,Bool.not_false,E4,A3,B8]
   rw [hv] at h0 ⊢
   exact(c8S hi hz h0).symm
 ·obtain⟨hv,hz⟩:=hv
  rw [List.take_length] at hv hz
  unfold W6 a19
  dsimp only
  rw [decide_eq_false (by omega),C6,Option.map_some,A3,B8,d2j hz,hv]
def d1s (r:A6):List A1:=[(1,(0:Int),B1 r.1,[]),(2,(0:Int),r.2.2.2.1,[])]
theorem d3T {f1 f2:A1} {r1 r2:List UInt8 × Int} (h1:J2 [] f1=some r1) (h2:J2 r1.1 f2=some r2):D9 [f1,f2]=some r2.1:=by
 rw [<-L4]
 unfold D9 a1u
 refine E7 [f1,f2] (fun i (b:List UInt8)=>([f1,f2],(([f1,f2].length:Nat):Int),((i:Nat):Int),b)) (fun i b=>(i=0/\b=[])\/(i=1/\b=r1.1)\/(i=2/\b=r2.1)) (fun i b hi hv=>?_) (fun b hv=>?_) (b0:=[]) (.inl ⟨rfl,rfl⟩) (by simp)
 ·have hi2:i < 2:=hi
  unfold L5
  dsimp only
  rw [decide_eq_true (by omega:(i:Int) < (([f1,f2].length:Nat):Int)),E4,decide_eq_true (by omega:(0:Int)<=(i:Int)/\(i:Int) < (([f1,f2].length:Nat):Int)),C4,Int.toNat_natCast,D8 hi]
  rcases hv with⟨rfl,rfl⟩ | ⟨rfl,rfl⟩ | ⟨rfl,rfl⟩
  ·rw [show([f1,f2]:List A1)[0]=f1 from rfl,h1,Option.bind_some,A3,B4,E2 (by omega)]
   exact⟨_,rfl,.inr (.inl ⟨rfl,rfl⟩)⟩
  ·rw [show([f1,f2]:List A1)[1]=f2 from rfl,h2,Option.bind_some,A3,B4,E2 (by omega)]
   exact⟨_,rfl,.inr (.inr ⟨rfl,rfl⟩)⟩
  ·omega
 ·unfold L5
  dsimp only
  rw [decide_eq_false (by omega),C6,A3,B8]
  have hl:[f1,f2].length=2:=rfl
  rw [hl] at hv
  rcases hv with⟨h,_⟩ | ⟨h,_⟩ | ⟨_,rfl⟩
  ·omega
  ·omega
  ·rfl
def c1F (r:A6):List UInt8:=(D9 (d1s r)).getD []
theorem b92 {r:A6} (h:okU r.2.2.2.1):D9 (d1s r)=some (c1F r)/\(c1F r).length<=1000/\∃ q:List UInt8 × Int,K0 [] (1,(0:Int),B1 r.1,[])=some q/\∃ q2:List UInt8 × Int,K0 q.1 (2,(0:Int),r.2.2.2.1,[])=some q2/\q2.1=c1F r:=by
 have f1:d6r (1,(0:Int),B1 r.1,[]):=⟨⟨by dsimp only;omega,by dsimp only;omega⟩,.inl rfl,I7 _⟩
 have f2:d6r (2,(0:Int),r.2.2.2.1,[]):=⟨⟨by dsimp only;omega,by dsimp only;omega⟩,.inl rfl,h⟩
 obtain⟨q,hq,hql⟩:=c1D (a:=[]) f1 (by simp)
 have hql:q.1.length<=20:=by simpa using hql
 obtain⟨q2,hq2,hq2l⟩:=c1D (a:=q.1) f2 (by simp;omega)
 have hq2l:q2.1.length<=q.1.length + 0 + 20:=hq2l
 have hm:=d3T hq hq2
 have hlf:c1F r=q2.1:=by unfold c1F d1s;rw [hm];rfl
 exact⟨by rw [hlf];exact hm,by rw [hlf];omega,q,by rw [c1C [] f1];exact hq,q2,by rw [c1C _ f2];exact hq2,hlf.symm⟩
theorem c88 {l:List A6} (h:∀ r ∈ l,okU r.2.2.2.1) (hl:l.length<=1000000):∃ k,a3X l=some k/\P1 l=some k:=by
 obtain⟨k,k1,k2⟩:=c3e c6g (l.map c1F) (by rw [b60,List.length_map];omega) (by rw [List.length_map];omega) (fun b hb=>by
  obtain⟨r,hr,rfl⟩:=List.mem_map.1 hb
  have:=(b92 (h r hr)).2.1
  omega)
 refine⟨k,?_,?_⟩
 ·rw [<-L4]
  unfold a3X a9A
  refine E7 l (fun i (b:List (List UInt8))=>(l,((l.length:Nat):Int),((i:Nat):Int),Vector.replicate 32 (0:UInt8),b)) (fun i b=>b=(l.take i).map c1F) (fun i b hi hv=>?_) (fun b hv=>?_) (b0:=[]) rfl (by omega)
  ·have hbl:b.length=i:=by rw [hv,List.length_map,List.length_take];omega
   obtain⟨_,_,q,e1,q2,e2,e3⟩:=b92 (h _ (List.getElem_mem hi))
   unfold a4H
   dsimp only
   rw [decide_eq_true (by omega:(i:Int) < ((l.length:Nat):Int)),E4,decide_eq_true (by omega:(0:Int)<=(i:Int)/\(i:Int) < ((l.length:Nat):Int)),C4,Int.toNat_natCast,D8 hi,e1,Option.bind_some,e2,Option.bind_some,decide_eq_true ⟨by unfold LIM;omega,by unfold LEN;omega⟩,C4,A3,B4,E2 (by omega),e3]
   exact⟨_,rfl,by rw [N0 hi,List.map_append,hv];rfl⟩
  ·rw [List.take_length] at hv
   unfold a4H
   dsimp only
   rw [decide_eq_false (by omega),C6,hv,k1,Option.bind_some,Option.map_some,A3,B8]
 ·rw [<-L4]
  unfold P1 a4x
  refine E7 l (fun i (b:List (List UInt8))=>(l,((l.length:Nat):Int),((i:Nat):Int),Vector.replicate 32 (0:UInt8),b)) (fun i b=>b=(l.take i).map c1F) (fun i b hi hv=>?_) (fun b hv=>?_) (b0:=[]) rfl (by omega)
  ·have hbl:b.length=i:=by rw [hv,List.length_map,List.length_take];omega
   obtain⟨e1,_⟩:=b92 (h _ (List.getElem_mem hi))
   unfold d1s at e1
   unfold W5
   dsimp only
   rw [decide_eq_true (by omega:(i:Int) < ((l.length:Nat):Int)),E4,decide_eq_true (by omega:(0:Int)<=(i:Int)/\(i:Int) < ((l.length:Nat):Int)),C4,Int.toNat_natCast,D8 hi,e1,Option.bind_some,decide_eq_true ⟨by unfold LIM;omega,by unfold LEN;omega⟩,C4,A3,B4,E2 (by omega)]
   exact⟨_,rfl,by rw [N0 hi,List.map_append,hv];rfl⟩
  ·rw [List.take_length] at hv
   unfold W5
   dsimp only
   rw [decide_eq_false (by omega),C6,hv,k2,Option.bind_some,Option.map_some,A3,B8]
theorem d1t (g:o6) (p:Int) (raw:List UInt8):okU (V3 g p raw).2.2.2.2.1:=by
 show okU (rsF g p raw).2.2.2.1
 unfold rsF
 split
 ·exact a4J
 ·split
  ·exact a4J
  ·exact(b8E raw).2.2.1
theorem c4R (p:Int):∀ (l:List (List UInt8)) (g:o6),∀ r ∈ (a4q g p l).2,okU r.2.2.2.1
 | [],_,_,h=>by cases h
 | x :: l,g,r,h=>by
  rcases List.mem_cons.1 h with rfl | h
  ·exact d1t g p x
  ·exact c4R p l _ r h
theorem b5G {l:List A6} (hl:l.length<=5000000000000):N1 l l=some true:=by
 unfold N1
 rw [decide_eq_true rfl,Bool.not_true,C6]
 refine L4.1 ?_
 unfold a2k
 refine E7 l (fun i (_:Unit)=>(l,l,((l.length:Nat):Int),((i:Nat):Int))) (fun _ _=>True) (fun i _ hi _=>?_) (fun _ _=>?_) (b0:=()) trivial (by omega)
 ·unfold N9
  dsimp only
  rw [decide_eq_true (by omega:(i:Int) < ((l.length:Nat):Int)),E4,decide_eq_true (by omega:(0:Int)<=(i:Int)/\(i:Int) < ((l.length:Nat):Int)),C4,C4,show U.beq D3 (List.getD l (Int.toNat (i:Int)) F7) (List.getD l (Int.toNat (i:Int)) F7)=true from b9Y _,Bool.not_true,C6,A3,B4,E2 (by omega)]
  exact⟨(),rfl,trivial⟩
 ·unfold N9
  dsimp only
  rw [decide_eq_false (by omega),C6,A3,B8]
theorem d1u {g:o6} {p:Int} {raw:List UInt8} (hg:b4U g) (hp:okU p) (hr:raw.length<=1000000):a2D g p raw=some (V3 g p raw).1:=by
 unfold a2D
 rw [b8G hg hp hr,Option.bind_some]
theorem d59 {L:List Int} {k n:Int} {s:A0} {a:L1} (hs:a9l L k s) (hk:k < 100000000) (h0:0<=k) (ha:d50 a) (hn:0<=n) (hn2:n<=6):Ok (a3h s a n) fun r=>a9l L (k + 400) r.1/\s.2 < r.1.2/\r.2.length<=6/\∀ b ∈ r.2,b.length<=4096:=by
 unfold a3h
 rw [E0 (by omega) (by omega),B6]
 refine(a2b hs (n:=n + 1) (by omega) (by omega) (by omega)).mono fun r1 h1=>?_
 obtain⟨a1,a2,a3,a4⟩:=h1
 unfold a51
 refine Q7 (fun n v=>∃ (u:A0) (g:o6) (l:List (List UInt8)) (i:Nat),v=((i:Int),u,a,g,l)/\n=i/\i + l.length<=6/\a9l L (k + 350 - 50 * i) u/\s.2 < u.2/\b6g g/\∀ b ∈ l,b.length<=4096) ?_ (n:=r1.2.toNat) ⟨r1.1,a.1,[],r1.2.toNat,by rw [Int.toNat_of_nonneg a3],rfl,by simp only [List.length_nil];omega,a1.le (by omega),by omega,ha.1,fun b hb=>(by cases hb)⟩ (by omega)
 rintro m v ⟨u,g,l,i,rfl,rfl,hi,hu,hq,hg,hl⟩
 unfold a3B
 dsimp only
 rw [C0]
 refine⟨fun h=>?_,fun h=>?_⟩
 ·have h:=of_decide_eq_true h
  have hw:A5 ((m:Int) - 1)=((m - 1:Nat):Int):=b9E (by omega) (by omega)
  have hc2:∀ {y:A0} {raw:List UInt8},a9l L (k + 350 - 50 * m + 45) y->s.2 < y.2->raw.length<=4096->Ok (U8 (m:Int) raw y a g l) (Nxt (fun r=>a9l L (k + 400) r.1/\s.2 < r.1.2/\r.2.length<=6/\∀ b ∈ r.2,b.length<=4096) fun z=>∃ m',m' < m/\∃ (u:A0) (g:o6) (l:List (List UInt8)) (i:Nat),z=((i:Int),u,a,g,l)/\m'=i/\i + l.length<=6/\a9l L (k + 350 - 50 * i) u/\s.2 < u.2/\b6g g/\∀ b ∈ l,b.length<=4096):=by
   intro y raw hy hy2 hraw
   unfold U8
   rw [decide_eq_true ⟨by unfold LIM;omega,by unfold LEN;omega⟩,C4,d1u hg.b ha.2.2.2.2 (by omega),Option.bind_some,A3,B4,hw]
   refine⟨m - 1,by omega,y,_,_,m - 1,rfl,rfl,by rw [List.length_append,List.length_singleton];omega,hy.le (by omega),hy2,(b1y hg).1,fun b hb=>?_⟩
   rcases List.mem_append.1 hb with hb | hb
   ·exact hl b hb
   ·rw [List.mem_singleton.1 hb];exact hraw
  rw [B6]
  refine(c4M hu (by omega) (by omega) hg.1).mono fun r2 h2=>?_
  obtain⟨b1,b2,b3⟩:=h2
  rw [C0]
  refine⟨fun hpos=>?_,fun _=>?_⟩
  ·have hpos:=of_decide_eq_true hpos
   rw [B6]
   refine(a2b b1 (n:=9) (by omega) (by omega) (by omega)).mono fun r5 h5=>?_
   obtain⟨c1,c2,c3,c4⟩:=h5
   unfold U9
   rw [C0]
   refine⟨fun _=>?_,fun _=>hc2 (c1.le (by omega)) (by omega) b3⟩
   rw [B6]
   refine(a2b c1 (n:=((l.length:Nat):Int)) (by omega) (by omega) (by omega)).mono fun r4 h4=>?_
   obtain⟨d1,d2,d3,d4⟩:=h4
   rw [decide_eq_true ⟨d3,d4⟩,C4,decide_eq_true (by omega),C4]
   have hlt:Int.toNat r4.2 < l.length:=by omega
   rw [D8 hlt]
   exact hc2 (d1.le (by omega)) (by omega) (hl _ (List.getElem_mem hlt))
  ·unfold U9
   rw [C6]
   exact hc2 (b1.le (by omega)) (by omega) b3
 ·rw [A3,B8]
  exact⟨hu.le (by omega),hq,by dsimp only;omega,hl⟩
end Go.Proofs.YtbipjlehhlkghaaGreatDoor.Am
