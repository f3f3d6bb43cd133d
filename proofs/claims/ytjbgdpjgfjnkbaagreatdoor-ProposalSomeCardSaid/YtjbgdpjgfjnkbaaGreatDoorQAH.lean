/- Texts laid together: GStable, Bl, PMap, SortF, AccOrd, PVar. No conditions. -/
import Derived.Test.YtjbgdpjgfjnkbaaGreatDoorQAG
import Derived.Shelf.SlSortCmp.NoneTotal
import Derived.Laws.BitsAllLaws
import Derived.Laws.Bits64
namespace Go.Proofs.YtjbgdpjgfjnkbaaGreatDoor.Am
open Go
section
variable {α:Type} {d:α} {cmp:α->α->Option Int} {c:α->α->Int}
theorem ww (h:Swo (ltc c)) {x y S:List α} (m:kO (ltc c) (iH (ltc c) x) (iH (ltc c) y) S):S=iH (ltc c) (x ++ y):=by
 have h1:=lz h (x ++ y);refine Iq h m.1 h1.1 (m.2.1.trans (ga.trans ?_ h1.2.symm));exact(lz h x).2.app (lz h y).2
def blk (lt:α->α->Bool) (bs:Nat) (l:List α):List α:=if _h:l=[]\/bs=0 then [] else iH lt (l.take bs) ++ blk lt bs (l.drop bs)
termination_by l.length
decreasing_by
 have h1:l ≠ []:=λe=>_h (.inl e);have h2:bs ≠ 0:=λe=>_h (.inr e);have:=List.length_pos_iff.2 h1;simp only [a3a];omega
theorem qD (lt:α->α->Bool) {bs:Nat} (hb:0 < bs) (l:List α):blk lt bs l=iH lt (l.take bs) ++ blk lt bs (l.drop bs):=by
 by_cases h:l=[]
 ·subst h;simp [blk,iH]
 ·rw [blk,dif_neg (by simp [h];omega)]
theorem Gk (lt:α->α->Bool) (bs:Nat):blk lt bs []=[]:=by rw [blk,dif_pos (.inl rfl)]
theorem pO (lt:α->α->Bool) {bs:Nat} (hb:0 < bs) {l:List α} (h:l.length<=bs):blk lt bs l=iH lt l:=by
 rw [qD lt hb,a3T h,List.drop_of_length_le h,Gk,a3b]
theorem VC (lt:α->α->Bool) {bs:Nat} (hb:0 < bs):∀ (n:Nat) (l:List α),l.length<=n->(blk lt bs l).length=l.length:=by
 intro n
 induction n with
 | zero=>intro l h;have:=a3e (Nat.le_zero.1 h);subst this;simp [Gk]
 | succ n ih=>
  intro l h;by_cases e:l=[]
  ·subst e;simp [Gk]
  ·have:=List.length_pos_iff.2 e;rw [qD lt hb,a2V,X8,ih (l.drop bs) (by simp;omega)];simp;omega
theorem VD (hc:∀ a b,cmp a b=some (c a b)) (h:Swo (ltc c)) {l:List α} (hlen:l.length < 1152921504606846976):a1d d cmp l (l.length:Int)=some (iH (ltc c) l):=by
 have pass:∀ bs:Nat,0 < bs->bs < l.length->Cc d cmp (l.length:Int) (bs:Int) 0 ((2 * bs:Nat):Int) (blk (ltc c) bs l)=some (.inl ((l.length:Int),((2 * bs:Nat):Int),blk (ltc c) (2 * bs) l)):=by
  intro bs hb hbn;have w1:A9 ((bs:Int) * 2)=((2 * bs:Nat):Int):=by rw [C8] <;> omega
  have w2:A9 (2 * (bs:Int))=((2 * bs:Nat):Int):=by rw [C8] <;> omega
  unfold Cc;refine J3.1 (eX (λv=>∃ D R,D.length + R.length=l.length/\blk (ltc c) (2 * bs) l=D ++ blk (ltc c) (2 * bs) R/\v=((l.length:Int),(bs:Int),(D.length:Int),((D.length + 2 * bs:Nat):Int),D ++ blk (ltc c) bs R)) (λv=>(v.1 - v.2.2.1).toNat) ?_ ⟨[],l,by simp,rfl,by simp⟩ (by dsimp only;omega));rintro v ⟨D,R,hDR,hD,rfl⟩;dsimp only;have w3:A9 ((D.length:Int) + (bs:Int))=((D.length + bs:Nat):Int):=by rw [C8] <;> omega
  have w4:A9 (((D.length + 2 * bs:Nat):Int) + ((2 * bs:Nat):Int))=((D.length + 2 * bs + 2 * bs:Nat):Int):=by rw [C8] <;> omega
  simp only [NO,NN,w1,w2,w3,w4,A7,A5,A4,C9,B5,B8,a2W,a2U];have take_drop:(R.take bs) ++ (R.drop bs)=R:=a3q bs R;refine⟨λh1=>?_,λh1=>⟨λh2=>?_,λh2=>?_⟩⟩
  ·have e2:R.take (2 * bs)=R.take bs ++ (R.drop bs).take bs:=by rw [show 2 * bs=bs + bs by omega,a5f]
   have e3:R.drop (2 * bs)=(R.drop bs).drop bs:=by rw [a3R];congr 1;omega
   have hs:=NX (d:=d) hc h EH (P:=D) (A:=iH (ltc c) (R.take bs)) (B:=iH (ltc c) ((R.drop bs).take bs)) (Q:=blk (ltc c) bs (R.drop (2 * bs))) (a:=(D.length:Int)) (m:=((D.length + bs:Nat):Int)) (b:=((D.length + 2 * bs:Nat):Int))
    (by rw [vN];simp only [X8,a26,a3a];omega) (by simp only [X8,a26];omega) (by simp only [X8,a26,a3a];omega) (lz h _).1 (lz h _).1
    (by simp only [a2V,X8,VC (ltc c) hb _ _ (a3j _),a26,a3a];omega) rfl (by simp only [X8,a26];omega) (by simp only [X8,a26,a3a];omega)
   have e4:D ++ blk (ltc c) bs R=D ++ iH (ltc c) (R.take bs) ++ iH (ltc c) ((R.drop bs).take bs) ++ blk (ltc c) bs (R.drop (2 * bs)):=by
    rw [qD (ltc c) hb R,qD (ltc c) hb (R.drop bs),e3];simp
   rw [e4];refine hs.mono ?_;rintro r ⟨S,rfl,hS⟩;have hSe:=ww h hS;rw [<-e2] at hSe;refine⟨⟨D ++ S,R.drop (2 * bs),?_,?_,?_⟩,?_⟩
   ·rw [hSe,a2V,X8];simp;omega
   ·rw [hD,qD (ltc c) (by omega) R,<-hSe];simp
   ·rw [hSe];simp only [a2V,X8,a26];rw [a4u (by omega)]
   ·simp only [Int.toNat_sub];omega
  ·have hs:=NX (d:=d) hc h EH (P:=D) (A:=iH (ltc c) (R.take bs)) (B:=iH (ltc c) (R.drop bs)) (Q:=[]) (a:=(D.length:Int)) (m:=((D.length + bs:Nat):Int)) (b:=(l.length:Int))
    (by rw [vN];simp only [X8,a26,a3a];omega) (by simp only [X8,a26];omega) (by simp only [X8,a3a];omega) (lz h _).1 (lz h _).1
    (by simp only [a2V,X8,a26,a3a,a3l];omega) rfl (by simp only [X8,a26];omega) (by simp only [X8,a26,a3a];omega)
   have e4:D ++ blk (ltc c) bs R=D ++ iH (ltc c) (R.take bs) ++ iH (ltc c) (R.drop bs) ++ []:=by
    rw [qD (ltc c) hb R,pO (ltc c) hb (l:=R.drop bs) (by simp;omega)];simp
   rw [e4];refine hs.mono ?_;rintro r ⟨S,rfl,hS⟩;have hSe:=ww h hS;rw [take_drop] at hSe;rw [hD,pO (ltc c) (by omega) (l:=R) (by omega),hSe];simp
  ·rw [hD,pO (ltc c) (bs:=2 * bs) (by omega) (l:=R) (by omega),pO (ltc c) hb (l:=R) (by omega)]
 have passes:Cd d cmp (l.length:Int) 20 (blk (ltc c) 20 l)=some (iH (ltc c) l):=by
  unfold Cd;refine J3.1 (eX (λv=>∃ bs:Nat,0 < bs/\bs < 2 * l.length + 40/\v=((l.length:Int),(bs:Int),blk (ltc c) bs l)) (λv=>(v.1 - v.2.1).toNat) ?_ ⟨20,by omega,by omega,rfl⟩ (by dsimp only;omega));rintro v ⟨bs,hb,hbn,rfl⟩;dsimp only;have w2:A9 (2 * (bs:Int))=((2 * bs:Nat):Int):=by rw [C8] <;> omega
  simp only [NP,w2,A7,A4,B8,a2W,a2U];refine⟨λh1=>?_,λh1=>pO (ltc c) hb (by omega)⟩;rw [pass bs hb (by omega),A4,B5];exact⟨⟨2 * bs,by omega,by omega,rfl⟩,by dsimp only;omega⟩
 unfold a1d Iz;refine J3.1 (eX (λv=>∃ D R,D.length + R.length=l.length/\blk (ltc c) 20 l=D ++ blk (ltc c) 20 R/\v=((l.length:Int),20,(D.length:Int),((D.length + 20:Nat):Int),D ++ R)) (λv=>(v.1 - v.2.2.1).toNat) ?_ ⟨[],l,by simp,rfl,by simp⟩ (by dsimp only;omega));rintro v ⟨D,R,hDR,hD,rfl⟩;dsimp only;have w4:A9 (((D.length + 20:Nat):Int) + 20)=((D.length + 20 + 20:Nat):Int):=by rw [C8] <;> omega
 simp only [NR,NQ,w4,A7,A5,A4,C9,B5,B8,a2W,a2U];refine⟨λh1=>?_,λh1=>?_⟩
 ·have hi:=NT (d:=d) hc (P:=D) (A:=R.take 20) (Q:=R.drop 20) (by simp only [a2V,a26,a3a];omega);have e1:D ++ R.take 20 ++ R.drop 20=D ++ R:=by rw [a3c,a3q]
  have e2:(R.take 20).length=20:=by simp;omega
  rw [e1,e2] at hi;rw [hi,A4];refine⟨⟨D ++ iH (ltc c) (R.take 20),R.drop 20,?_,?_,?_⟩,?_⟩
  ·rw [a2V,X8,e2];simp;omega
  ·rw [hD,qD (ltc c) (by omega) R];simp
  ·rw [a2V,X8,e2]
  ·omega
 ·have hi:=NT (d:=d) hc (P:=D) (A:=R) (Q:=[]) (by simp only [a2V,a3l];omega);rw [hDR,a3b] at hi;rw [hi,A4,a3b,<-pO (ltc c) (bs:=20) (by omega) (l:=R) (by omega),<-hD,passes];exact(A4 _ _).2 rfl
theorem NY (hc:∀ a b,cmp a b=some (c a b)) (h:Swo (ltc c)) {l:List α} (hlen:l.length < 1152921504606846976):NS d cmp l=some (iH (ltc c) l):=by
 unfold NS;rw [VD hc h hlen];rfl
end
theorem gY:∀ (x:List UInt8),Op.bytesLess x x=false
 | []=>rfl
 | a :: x=>by rw [Op.bytesLess,gY x];simp
theorem Gs (a b:UInt8) (x y:List UInt8):Op.bytesLess (a :: x) (b :: y)=true ↔ a.toNat < b.toNat\/(a.toNat=b.toNat/\Op.bytesLess x y=true):=by
 rw [Op.bytesLess];simp only [a3Y,a24,a2W,beq_iff_eq];rw [UInt8.lt_iff_toNat_lt,<-UInt8.toNat_inj]
theorem qE:∀ {x y z:List UInt8},Op.bytesLess x y=true->Op.bytesLess y z=true->Op.bytesLess x z=true
 | x,[],z,h,_=>by cases x <;> cases h
 | x,_ :: _,[],_,h=>by cases h
 | [],_ :: _,_ :: _,_,_=>rfl
 | a :: x,b :: y,c :: z,h,k=>by
  rw [Gs] at h k ⊢;rcases h with h | ⟨h1,h2⟩ <;> rcases k with k | ⟨k1,k2⟩
  ·left;omega
  ·left;omega
  ·left;omega
  ·right;exact⟨by omega,qE h2 k2⟩
theorem wy:∀ (x y:List UInt8),Op.bytesLess x y=true\/x=y\/Op.bytesLess y x=true
 | [],[]=> .inr (.inl rfl)
 | [],_ :: _=> .inl rfl
 | _ :: _,[]=> .inr (.inr rfl)
 | a :: x,b :: y=>by
  rw [Gs,Gs];rcases a4Z a.toNat b.toNat with h | h | h
  ·exact .inl (.inl h)
  ·rcases wy x y with k | k | k
   ·exact .inl (.inr ⟨h,k⟩)
   ·exact .inr (.inl (by rw [UInt8.toNat_inj.1 h,k]))
   ·exact .inr (.inr (.inr ⟨h.symm,k⟩))
  ·exact .inr (.inr (.inl h))
theorem xj {x y:List UInt8} (h:Op.bytesLess x y=true):Op.bytesLess y x=false:=by
 cases k:Op.bytesLess y x with
 | false=>rfl
 | true=>rw [qE h k |>.symm,gY]
def RL (x y:List UInt8):Int:=if Op.bytesLess x y=true then -1 else if Op.bytesLess y x=true then 1 else 0
theorem xk (x y:List UInt8):RL x y < 0 ↔ Op.bytesLess x y=true:=by unfold RL;split <;> (try split) <;> simp_all
theorem Od (x y:List UInt8):RL x y=0 ↔ x=y:=by
 unfold RL;split
 ·rename_i h;constructor
  ·intro e;cases e
  ·intro e;subst e;rw [gY] at h;cases h
 ·split
  ·rename_i h;constructor
   ·intro e;cases e
   ·intro e;subst e;rw [gY] at h;cases h
  ·rename_i h k;refine⟨λ_=>?_,λ_=>rfl⟩;rcases wy x y with e | e | e
   ·exact absurd e h
   ·exact e
   ·exact absurd e k
def Og {α:Type} (eq:α->α->Bool):Prop:=∀ a b,eq a b=true ↔ a=b
theorem Ck:Og zf:=λa b=>by simp [zf]
section
variable {α β:Type} {eq:α->α->Bool}
theorem Gu (p:α × β) (l:List (α × β)):ry (p :: l)=p.1 :: ry l:=rfl
theorem ut (he:Og eq) (k:α):∀ l:List (α × β),(Dq eq k l).isSome=true ↔ k ∈ ry l
 | []=>by simp [Dq,ry]
 | p :: l=>by
  rw [Gu,a4c,<-ut he k l,<-he];show(if eq k p.1=true then some 0 else(Dq eq k l).map (· + 1)).isSome=true ↔ _
  by_cases h:eq k p.1=true <;> simp [h]
theorem Oh (he:Og eq) {k:α} {l:List (α × β)} (h:k ∉ ry l):Dq eq k l=none:=by
 cases hm:Dq eq k l with
 | none=>rfl
 | some i=>exact(h ((ut he k l).1 (by rw [hm];rfl))).elim
theorem RN (he:Og eq) {k:α} {v:β} {l:List (α × β)} (h:k ∉ ry l):TJ eq k v l=l ++ [(k,v)]:=by
 unfold TJ;rw [Oh he h]
end
end Go.Proofs.YtjbgdpjgfjnkbaaGreatDoor.Am
namespace Go.Proofs.YtjbgdpjgfjnkbaaGreatDoor.Am
open Go Go.Shelf Go.Proofs Go.RowKit
def a0e {α:Type} (d0:α) (cf:α->α->Int) (l:List α):List α:=
 haveI:Inhabited α:=⟨d0⟩
 (Sort.pdq (ltOf cf) l.toArray 0 l.length (Lib.bitLen l.length) true true).toList
theorem DQ {α:Type} (d0:α) (cf:α->α->Int) (hO:haveI:Inhabited α:=⟨d0⟩;Sort.SWO (ltOf cf)) (l:List α):(a0e d0 cf l).Perm l/\(a0e d0 cf l).Pairwise λx y=>ltOf cf y x=false:=by
 letI:Inhabited α:=⟨d0⟩
 have h:=Sort.pdq_sorts (ltOf cf) hO l.toArray 0 l.toArray.size (Lib.bitLen l.length) true true (a3B _) (a3j _) (Or.inl rfl);obtain⟨⟨h1,h2,h3⟩,h4⟩:=h;have e1:l.toArray.size=l.length:=a4a;have hs:a0e d0 cf l=(Sort.pdq (ltOf cf) l.toArray 0 l.toArray.size (Lib.bitLen l.length) true true).toList:=by rw [e1];rfl
 rw [hs];generalize Sort.pdq (ltOf cf) l.toArray 0 l.toArray.size (Lib.bitLen l.length) true true=d at h1 h2 h3 h4;constructor
 ·have e2:d.extract 0 l.toArray.size=d:=by rw [<-h1,Array.extract_size]
  rw [e2,Array.extract_size] at h3;exact h3
 ·rw [List.pairwise_iff_getElem];intro i j hi hj hij;have hj':j < d.size:=by simpa using hj
  have hi':i < d.size:=by simpa using hi
  have:=h4 i j (a3B _) hij (by rw [<-h1];exact hj')
  rwa [getElem!_pos d j hj',getElem!_pos d i hi'] at this
def KC (a b:List UInt8 × Int × Int):Int:=RL a.1 b.1
theorem RP (a b:List UInt8 × Int × Int):ltOf KC a b=Op.bytesLess a.1 b.1:=by
 unfold ltOf KC;cases h:Op.bytesLess a.1 b.1 with
 | true=>exact a2S ((xk _ _).2 h)
 | false=>exact a2Y λk=>by rw [xk,h] at k;cases k
theorem Ue:Sort.SWO (ltOf KC):=by
 refine⟨λx=>?_,λx y z h k=>?_,λx y z h k=>?_⟩
 ·rw [RP,gY]
 ·rw [RP] at h k ⊢;exact qE h k
 ·rw [RP] at h k ⊢;rcases wy y.1 x.1 with e | e | e
  ·rcases wy z.1 y.1 with f | f | f
   ·exact xj (qE f e)
   ·rw [f];exact xj e
   ·rw [f] at k;cases k
  ·rw [<-e];exact k
  ·rw [e] at h;cases h
end Go.Proofs.YtjbgdpjgfjnkbaaGreatDoor.Am
namespace Go.Proofs.YtjbgdpjgfjnkbaaGreatDoor.Am
open Go
def U64:Nat:=18446744073709551616
def VT:Nat->Nat->List UInt8
 | 0,_=>[]
 | k + 1,n=>if n < 128 then [UInt8.ofNat n] else UInt8.ofNat (n % 128 + 128) :: VT k (n / 128)
def enc (n:Nat):List UInt8:=VT (n + 1) n
theorem DW:∀ (k j n:Nat),n < k->n < j->VT k n=VT j n
 | 0,_,_,h,_=>by omega
 | _,0,_,_,h=>by omega
 | k + 1,j + 1,n,h,h'=>by
  simp only [VT];by_cases h1:n < 128
  ·rw [a28 h1,a28 h1]
  ·rw [a25 h1,a25 h1,DW k j (n / 128) (by omega) (by omega)]
theorem a1h (m:Nat):bits .or .u8 ((m:Int) % 256) 128=((UInt8.ofNat (m % 128 + 128)).toNat:Int):=by
 have h:∀ x:Fin 256,bits .or .u8 ((x.val:Nat):Int) 128=((x.val % 128 + 128:Nat):Int):=by decide +kernel
 have:=h ⟨m % 256,by omega⟩;have e:((m:Int) % 256)=((m % 256:Nat):Int):=by omega
 rw [e,this];have e2:m % 256 % 128=m % 128:=by omega
 rw [UInt8.toNat_ofNat'];simp only [e2];omega
theorem DX (n:Nat) (h:128<=n):enc n=UInt8.ofNat (n % 128 + 128) :: enc (n / 128):=by
 rw [enc,VT,a25 (by omega),enc,DW n (n / 128 + 1) (n / 128) (by omega) (by omega)]
theorem DY (n:Nat) (h:n < 128):enc n=[UInt8.ofNat n]:=by rw [enc,VT,a28 h]
theorem enc_len:∀ (k n:Nat),0 < k->n < 128 ^ k->(enc n).length<=k:=by
 intro k
 induction k with
 | zero=>intro n h;omega
 | succ k ih=>
  intro n _ h;by_cases h1:n < 128
  ·rw [DY n h1];simp
  ·rw [DX n (by omega),a27];have:n / 128 < 128 ^ k:=by rw [a4C] at h;omega
   have hk:0 < k:=by
    rcases a3I k with h0 | h0
    ·subst h0;simp at this;omega
    ·exact h0
   have:=ih (n / 128) hk this;omega
theorem nf (n:Nat) (h:n < U64):(enc n).length<=10:=enc_len 10 n (by omega) (by unfold U64 at h;omega)
def rdF:Nat->Nat->List UInt8->Nat × Nat × Nat
 | _,_,[]=>(0,0,5)
 | i,n,x :: r=>if i=9/\1 < x.toNat then(0,0,6) else if 0 < i/\x.toNat=0 then(0,0,4) else
  if x.toNat < 128 then(n + x.toNat % 128 * 128 ^ i,i + 1,0) else rdF (i + 1) (n + x.toNat % 128 * 128 ^ i) r
def rd (l:List UInt8):Nat × Nat × Nat:=rdF 0 0 l
theorem Ov (k:Nat):2 ^ (7 * k)=128 ^ k:=by rw [Nat.pow_mul]
theorem DZ (k:Nat) (hk:k<=9):128 ^ k<=9223372036854775808:=by
 have:=a4P (n:=128) (by omega) hk;exact a3w this (by decide)
theorem Ow (y k:Nat) (hk:k<=9) (h9:k=9->y<=1):y % 128 * 128 ^ k<=9223372036854775808:=by
 by_cases h:k=9
 ·subst h;have:=h9 rfl;have h2:y % 128<=1:=by omega
  calc y % 128 * 128 ^ 9<=1 * 128 ^ 9:=a3v _ h2
   _<=_:=by decide
 ·have h1:128 ^ k<=128 ^ 8:=a4P (by omega) (by omega)
  calc y % 128 * 128 ^ k<=128 * 128 ^ 8:=a42 (by omega) h1
   _<=_:=by decide
theorem VU (m y k:Nat) (hm:m < 128 ^ k) (hk:k<=9) (hy:y < 256) (h9:k=9->y<=1) :
  bits .or .u64 (m:Int) (IntKind.u64.wrap (IntKind.u64.wrap (bits .and .u8 (y:Int) 127) * 2 ^ (7 * k)))=((m + y % 128 * 128 ^ k:Nat):Int):=by
 have h1:=Ow y k hk h9;have h2:=DZ k hk;have e1:bits .and .u8 (y:Int) 127=((y % 128:Nat):Int):=by
  have:=u8_and_nat y 127 hy (by omega);rw [nat_mask7] at this;exact this
 rw [e1,IntKind.wrap_u64,IntKind.wrap_u64];have e2:((y % 128:Nat):Int) % 18446744073709551616=((y % 128:Nat):Int):=by omega
 rw [e2];have e3:((y % 128:Nat):Int) * 2 ^ (7 * k)=((y % 128 * 128 ^ k:Nat):Int):=by
  rw [<-Ov];simp
 rw [e3];have e4:((y % 128 * 128 ^ k:Nat):Int) % 18446744073709551616=((y % 128 * 128 ^ k:Nat):Int):=by
  generalize y % 128 * 128 ^ k=q at *
  omega
 rw [e4,u64_or_nat m _ (by omega) (by omega),Nat.or_comm,nat_join (7 * k) _ _ (by rw [Ov];exact Nat.mul_mod_left _ _) (by rw [Ov];exact hm),a3S]
theorem Zm (m:Nat):(UInt8.ofNat (m % 128 + 128)).toNat=m % 128 + 128:=by rw [UInt8.toNat_ofNat'];omega
theorem RX (m:Nat) (h:m < 128):(UInt8.ofNat m).toNat=m:=by rw [UInt8.toNat_ofNat'];omega
theorem Ug (m p:Nat):m % 128 * p + m / 128 * (p * 128)=m * p:=by
 have h:m=128 * (m / 128) + m % 128:=by omega
 have:m / 128 * (p * 128)=128 * (m / 128) * p:=by rw [a4B p 128,<-a5h,a4B (m / 128) 128]
 rw [this,<-a4K,a3S]
 conv=>rhs;rw [h]
theorem a2i (m:Nat) (h:m * 128 ^ 9 < U64):m<=1:=by
 have:(128:Nat) ^ 9=9223372036854775808:=by decide
 rw [this] at h;unfold U64 at h;omega
theorem Ox (t:List UInt8):∀ (k m i n:Nat),m < k->i<=9->(i=0\/0 < m)->m * 128 ^ i < U64->rdF i n (enc m ++ t)=(n + m * 128 ^ i,i + (enc m).length,0)
 | 0,_,_,_,h,_,_,_=>by omega
 | k + 1,m,i,n,hk,hi,h0,hb=>by
  by_cases h1:m < 128
  ·rw [DY m h1,a4L,rdF,RX m h1];have h9:¬ (i=9/\1 < m):=by rintro⟨rfl,h⟩;have:=a2i m hb;omega
   rw [a25 h9,a25 (by omega),a28 h1,a4p h1];rfl
  ·rw [DX m (by omega),a3x,rdF,Zm];have hi9:i ≠ 9:=by rintro rfl;have:=a2i m hb;omega
   rw [a25 (by omega),a25 (by omega),a25 (by omega)];have e:(m % 128 + 128) % 128=m % 128:=by omega
   have hd:=Ug m (128 ^ i);rw [e,Ox t k (m / 128) (i + 1) _ (by omega) (by omega) (by omega) (by rw [a4C];omega),a4C,a27,a3J,hd,a3J,a3S 1]
theorem IK (n:Nat) (t:List UInt8) (h:n < U64):rd (enc n ++ t)=(n,(enc n).length,0):=by
 rw [rd,Ox t (n + 1) n 0 0 (by omega) (by omega) (.inl rfl) (by simpa using h)];simp
theorem Oy:∀ (l:List UInt8) (i n:Nat),i<=9->n < 128 ^ i->((rdF i n l).2.2 ≠ 0->rdF i n l=(0,0,(rdF i n l).2.2))/\
  ((rdF i n l).2.2=0->∃ m k,rdF i n l=(n + m * 128 ^ i,i + k,0)/\1<=k/\k<=l.length/\enc m=l.take k/\(i=0\/0 < m)/\n + m * 128 ^ i < U64)
 | [],i,n,_,_=>by simp [rdF]
 | x :: r,i,n,hi,hn=>by
  rw [rdF];by_cases h1:i=9/\1 < x.toNat
  ·rw [a28 h1];simp
  rw [a25 h1];by_cases h2:0 < i/\x.toNat=0
  ·rw [a28 h2];simp
  rw [a25 h2];have hpart:=Ow x.toNat i hi (by omega);have hpow:=DZ i hi;by_cases h3:x.toNat < 128
  ·rw [a28 h3];refine⟨λh=>absurd rfl h,λ_=>⟨x.toNat,1,by rw [a4p h3],by omega,by simp,?_,by omega,?_⟩⟩
   ·rw [DY _ h3];simp
   ·rw [a4p h3] at hpart;unfold U64;omega
  ·rw [a25 h3];have hx:=x.toNat_lt;have hlt:n + x.toNat % 128 * 128 ^ i < 128 ^ (i + 1):=by
    have h2:x.toNat % 128 * 128 ^ i<=127 * 128 ^ i:=a3v _ (by omega);rw [a4C];omega
   have ih:=Oy r (i + 1) (n + x.toNat % 128 * 128 ^ i) (by omega) hlt;refine⟨ih.1,λh=>?_⟩;obtain⟨m,k,h4,h5,h6,h7,h8,h9⟩:=ih.2 h;have hm:0 < m:=by omega
   have e1:(m * 128 + x.toNat % 128) % 128=x.toNat % 128:=by omega
   have e2:(m * 128 + x.toNat % 128) / 128=m:=by omega
   have hd:=Ug (m * 128 + x.toNat % 128) (128 ^ i);rw [e1,e2] at hd;rw [a4C,a3J,hd] at h4 h9;refine⟨m * 128 + x.toNat % 128,k + 1,by rw [h4];congr 2;omega,by omega,by simp;omega,?_,by omega,h9⟩;rw [DX _ (by omega),e1,e2,h7,a3X];congr 1;apply UInt8.toNat_inj.1;rw [UInt8.toNat_ofNat'];omega
theorem Ea (l:List UInt8):((rd l).2.2 ≠ 0->rd l=(0,0,(rd l).2.2))/\
  ((rd l).2.2=0->1<=(rd l).2.1/\(rd l).2.1<=l.length/\enc (rd l).1=l.take (rd l).2.1/\(rd l).1 < U64):=by
 have h:=Oy l 0 0 (by omega) (by simp);refine⟨h.1,λh0=>?_⟩;obtain⟨m,k,h1,h2,h3,h4,_,h6⟩:=h.2 h0;have e:rd l=(m,k,0):=by rw [rd,h1];simp
 rw [e];exact⟨h2,h3,h4,by simpa using h6⟩
theorem KH (l:List UInt8):(rd l).1 < U64/\(rd l).2.1<=l.length/\(rd l).2.2 < 7:=by
 by_cases h:(rd l).2.2=0
 ·obtain⟨_,h2,_,h4⟩:=(Ea l).2 h;exact⟨h4,h2,by omega⟩
 ·have e:=(Ea l).1 h;have h7:∀ (l:List UInt8) (i n:Nat),(rdF i n l).2.2 < 7:=by
   intro l
   induction l with
   | nil=>intro i n;simp [rdF]
   | cons x r ih=>intro i n;rw [rdF];split <;> (try split) <;> (try split) <;> first | (simp;done) | exact ih _ _
  have h8:=h7 l 0 0;refine⟨by rw [e];unfold U64;simp,by rw [e];simp,h8⟩
end Go.Proofs.YtjbgdpjgfjnkbaaGreatDoor.Am
