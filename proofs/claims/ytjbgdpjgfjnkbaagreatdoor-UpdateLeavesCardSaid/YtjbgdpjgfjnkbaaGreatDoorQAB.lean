/- Texts laid together: AccOrd, PVar, PFld, PWt, RowG. No conditions. -/
import Derived.Test.YtjbgdpjgfjnkbaaGreatDoorQAA
import Derived.Laws.BitsAllLaws
import Derived.Laws.Bits64
import Derived.Test.YtjbgdpjgfjnkbaaGreatDoorCards
import Derived.Lib.LaidU8
import Derived.Lay
import Derived.SevenTiedAt
import Derived.KernelRfl
namespace Go.Proofs.YtjbgdpjgfjnkbaaGreatDoor.Am
open Go Go.Proofs
def MY(a b:List UInt8×Int×Int):Int:=UF a.1 b.1
theorem UK(a b:List UInt8×Int×Int):UJ MY a b=Op.bytesLess a.1 b.1:=by
 unfold UJ MY;cases h:Op.bytesLess a.1 b.1 with
 |true=>exact a5H ((zn _ _).2 h)
 |false=>exact a5N λk=>by rw[zn,h]at k;cases k
theorem WW:Sort.SWO (UJ MY):=by
 refine⟨λx=>?_,λx y z h k=>?_,λx y z h k=>?_⟩
 ·rw[UK,iL]
 ·rw[UK]at h k⊢;exact sd h k
 ·rw[UK]at h k⊢;rcases yx y.1 x.1 with e|e|e
  ·rcases yx z.1 y.1 with f|f|f
   ·exact zm (sd f e)
   ·rw[f];exact zm e
   ·rw[f]at k;cases k
  ·rw[<-e];exact k
  ·rw[e]at h;cases h
end Go.Proofs.YtjbgdpjgfjnkbaaGreatDoor.Am
namespace Go.Proofs.YtjbgdpjgfjnkbaaGreatDoor.Am
open Go
def U64:Nat:=18446744073709551616
def YJ:Nat->Nat->List UInt8
 |0,_=>[]
 |k+1,n=>if n<128 then [UInt8.ofNat n]else UInt8.ofNat (n%128+128)::YJ k (n / 128)
def enc(n:Nat):List UInt8:=YJ (n+1) n
theorem Gp:∀(k j n:Nat),n<k->n<j->YJ k n=YJ j n
 |0,_,_,h,_=>by omega
 |_,0,_,_,h=>by omega
 |k+1,j+1,n,h,h'=>by
  simp only[YJ];by_cases h1:n<128
  ·rw[a5W h1,a5W h1]
  ·rw[a5U h1,a5U h1,Gp k j (n / 128) (by omega) (by omega)]
theorem a34(m:Nat):bits .or .u8 ((m:Int)%256) 128=((UInt8.ofNat (m%128+128)).toNat:Int):=by
 have h:∀x:Fin 256,bits .or .u8 ((x.val:Nat):Int) 128=((x.val%128+128:Nat):Int):=by decide +kernel
 have:=h ⟨m%256,by omega⟩;have e:((m:Int)%256)=((m%256:Nat):Int):=by omega
 rw[e,this];have e2:m%256%128=m%128:=by omega
 rw[UInt8.toNat_ofNat'];simp only[e2];omega
theorem Gq(n:Nat) (h:128<=n):enc n=UInt8.ofNat (n%128+128)::enc (n / 128):=by
 rw[enc,YJ,a5U (by omega),enc,Gp n (n / 128+1) (n / 128) (by omega) (by omega)]
theorem Gr(n:Nat) (h:n<128):enc n=[UInt8.ofNat n]:=by rw[enc,YJ,a5W h]
theorem enc_len:∀(k n:Nat),0<k->n<128^k->(enc n).length<=k:=by
 intro k
 induction k with
 |zero=>intro n h;omega
 |succ k ih=>
  intro n _ h;by_cases h1:n<128
  ·rw[Gr n h1];simp
  ·rw[Gq n (by omega),a54];have:n / 128<128^k:=by rw[a7r]at h;omega
   have hk:0<k:=by
    rcases a66 k with h0|h0
    ·subst h0;simp at this;omega
    ·exact h0
   have:=ih (n / 128) hk this;omega
theorem nW(n:Nat) (h:n<U64):(enc n).length<=10:=enc_len 10 n (by omega) (by unfold U64 at h;omega)
def rdF:Nat->Nat->List UInt8->Nat×Nat×Nat
 |_,_,[]=>(0,0,5)
 |i,n,x::r=>if i=9/\1<x.toNat then(0,0,6)else if 0<i/\x.toNat=0 then(0,0,4) else
  if x.toNat<128 then(n+x.toNat%128*128^i,i+1,0)else rdF (i+1) (n+x.toNat%128*128^i) r
def rd(l:List UInt8):Nat×Nat×Nat:=rdF 0 0 l
theorem QG(k:Nat):2^(7*k)=128^k:=by rw[Nat.pow_mul]
theorem Gs(k:Nat) (hk:k<=9):128^k<=9223372036854775808:=by
 have:=a7G (n:=128) (by omega) hk;exact a6c this (by decide)
theorem QH(y k:Nat) (hk:k<=9) (h9:k=9->y<=1):y%128*128^k<=9223372036854775808:=by
 by_cases h:k=9
 ·subst h;have:=h9 rfl;have h2:y%128<=1:=by omega
  calc y%128*128^9<=1*128^9:=a6k _ h2
   _<=_:=by decide
 ·have h1:128^k<=128^8:=a7G (by omega) (by omega)
  calc y%128*128^k<=128*128^8:=a7V (by omega) h1
   _<=_:=by decide
theorem YK(m y k:Nat) (hm:m<128^k) (hk:k<=9) (hy:y<256) (h9:k=9->y<=1) :
  bits .or .u64 (m:Int) (IntKind.u64.wrap (IntKind.u64.wrap (bits .and .u8 (y:Int) 127)*2^(7*k)))=((m+y%128*128^k:Nat):Int):=by
 have h1:=QH y k hk h9;have h2:=Gs k hk;have e1:bits .and .u8 (y:Int) 127=((y%128:Nat):Int):=by
  have:=u8_and_nat y 127 hy (by omega);rw[nat_mask7]at this;exact this
 rw[e1,IntKind.wrap_u64,IntKind.wrap_u64];have e2:((y%128:Nat):Int)%18446744073709551616=((y%128:Nat):Int):=by omega
 rw[e2];have e3:((y%128:Nat):Int)*2^(7*k)=((y%128*128^k:Nat):Int):=by
  rw[<-QG];simp
 rw[e3];have e4:((y%128*128^k:Nat):Int)%18446744073709551616=((y%128*128^k:Nat):Int):=by
  generalize y%128*128^k=q at *
  omega
 rw[e4,u64_or_nat m _ (by omega) (by omega),Nat.or_comm,nat_join (7*k) _ _ (by rw[QG];exact Nat.mul_mod_left _ _) (by rw[QG];exact hm),a6I]
theorem a2d(m:Nat):(UInt8.ofNat (m%128+128)).toNat=m%128+128:=by rw[UInt8.toNat_ofNat'];omega
theorem UR(m:Nat) (h:m<128):(UInt8.ofNat m).toNat=m:=by rw[UInt8.toNat_ofNat'];omega
theorem WY(m p:Nat):m%128*p+m / 128*(p*128)=m*p:=by
 have h:m=128*(m / 128)+m%128:=by omega
 have:m / 128*(p*128)=128*(m / 128)*p:=by rw[a7q p 128,<-a78,a7q (m / 128) 128]
 rw[this,<-a7x,a6I]
 conv=>rhs;rw[h]
theorem a48(m:Nat) (h:m*128^9<U64):m<=1:=by
 have:(128:Nat)^9=9223372036854775808:=by decide
 rw[this]at h;unfold U64 at h;omega
theorem QI(t:List UInt8):∀(k m i n:Nat),m<k->i<=9->(i=0\/0<m)->m*128^i<U64->rdF i n (enc m++t)=(n+m*128^i,i+(enc m).length,0)
 |0,_,_,_,h,_,_,_=>by omega
 |k+1,m,i,n,hk,hi,h0,hb=>by
  by_cases h1:m<128
  ·rw[Gr m h1,a7C,rdF,UR m h1];have h9:¬(i=9/\1<m):=by rintro⟨rfl,h⟩;have:=a48 m hb;omega
   rw[a5U h9,a5U (by omega),a5W h1,a7j h1];rfl
  ·rw[Gq m (by omega),a6l,rdF,a2d];have hi9:i≠9:=by rintro rfl;have:=a48 m hb;omega
   rw[a5U (by omega),a5U (by omega),a5U (by omega)];have e:(m%128+128)%128=m%128:=by omega
   have hd:=WY m (128^i);rw[e,QI t k (m / 128) (i+1) _ (by omega) (by omega) (by omega) (by rw[a7r];omega),a7r,a54,a6D,hd,a6D,a6I 1]
theorem Lb(n:Nat) (t:List UInt8) (h:n<U64):rd (enc n++t)=(n,(enc n).length,0):=by
 rw[rd,QI t (n+1) n 0 0 (by omega) (by omega) (.inl rfl) (by simpa using h)];simp
theorem QJ:∀(l:List UInt8) (i n:Nat),i<=9->n<128^i->((rdF i n l).2.2≠0->rdF i n l=(0,0,(rdF i n l).2.2))/\
  ((rdF i n l).2.2=0->∃m k,rdF i n l=(n+m*128^i,i+k,0)/\1<=k/\k<=l.length/\enc m=l.take k/\(i=0\/0<m)/\n+m*128^i<U64)
 |[],i,n,_,_=>by simp[rdF]
 |x::r,i,n,hi,hn=>by
  rw[rdF];by_cases h1:i=9/\1<x.toNat
  ·rw[a5W h1];simp
  rw[a5U h1];by_cases h2:0<i/\x.toNat=0
  ·rw[a5W h2];simp
  rw[a5U h2];have hpart:=QH x.toNat i hi (by omega);have hpow:=Gs i hi;by_cases h3:x.toNat<128
  ·rw[a5W h3];refine⟨λh=>absurd rfl h,λ_=>⟨x.toNat,1,by rw[a7j h3],by omega,by simp,?_,by omega,?_⟩⟩
   ·rw[Gr _ h3];simp
   ·rw[a7j h3]at hpart;unfold U64;omega
  ·rw[a5U h3];have hx:=x.toNat_lt;have hlt:n+x.toNat%128*128^i<128^(i+1):=by
    have h2:x.toNat%128*128^i<=127*128^i:=a6k _ (by omega);rw[a7r];omega
   have ih:=QJ r (i+1) (n+x.toNat%128*128^i) (by omega) hlt;refine⟨ih.1,λh=>?_⟩;obtain⟨m,k,h4,h5,h6,h7,h8,h9⟩:=ih.2 h;have hm:0<m:=by omega
   have e1:(m*128+x.toNat%128)%128=x.toNat%128:=by omega
   have e2:(m*128+x.toNat%128) / 128=m:=by omega
   have hd:=WY (m*128+x.toNat%128) (128^i);rw[e1,e2]at hd;rw[a7r,a6D,hd]at h4 h9;refine⟨m*128+x.toNat%128,k+1,by rw[h4];congr 2;omega,by omega,by simp;omega,?_,by omega,h9⟩;rw[Gq _ (by omega),e1,e2,h7,a6N];congr 1;apply UInt8.toNat_inj.1;rw[UInt8.toNat_ofNat'];omega
theorem Gt(l:List UInt8):((rd l).2.2≠0->rd l=(0,0,(rd l).2.2))/\
  ((rd l).2.2=0->1<=(rd l).2.1/\(rd l).2.1<=l.length/\enc (rd l).1=l.take (rd l).2.1/\(rd l).1<U64):=by
 have h:=QJ l 0 0 (by omega) (by simp);refine⟨h.1,λh0=>?_⟩;obtain⟨m,k,h1,h2,h3,h4,_,h6⟩:=h.2 h0;have e:rd l=(m,k,0):=by rw[rd,h1];simp
 rw[e];exact⟨h2,h3,h4,by simpa using h6⟩
theorem Nc(l:List UInt8):(rd l).1<U64/\(rd l).2.1<=l.length/\(rd l).2.2<7:=by
 by_cases h:(rd l).2.2=0
 ·obtain⟨_,h2,_,h4⟩:=(Gt l).2 h;exact⟨h4,h2,by omega⟩
 ·have e:=(Gt l).1 h;have h7:∀(l:List UInt8) (i n:Nat),(rdF i n l).2.2<7:=by
   intro l
   induction l with
   |nil=>intro i n;simp[rdF]
   |cons x r ih=>intro i n;rw[rdF];split <;> (try split) <;> (try split) <;> first|(simp;done)|exact ih _ _
  have h8:=h7 l 0 0;refine⟨by rw[e];unfold U64;simp,by rw[e];simp,h8⟩
structure Fld where
 num:Int
 kind:Int
 val:Nat
 byt:List UInt8
def Fld.zero:Fld:=⟨0,0,0,[]⟩
def Fld.ok(f:Fld):Bool:=decide (1<=f.num/\f.num<=536870911/\(f.kind=0/\f.byt.length=0\/f.kind=2/\f.val=0))
def Fld.tag(f:Fld):Nat:=(8*f.num+f.kind).toNat
def Fld.enc(f:Fld):List UInt8:=Proofs.YtjbgdpjgfjnkbaaGreatDoor.Am.enc f.tag++if f.kind=0 then Proofs.YtjbgdpjgfjnkbaaGreatDoor.Am.enc f.val else Proofs.YtjbgdpjgfjnkbaaGreatDoor.Am.enc f.byt.length++f.byt
theorem Fld.tag_lt(f:Fld) (h:f.ok=true):f.tag<U64/\(f.tag:Int)=8*f.num+f.kind/\f.tag<4294967296:=by
 simp only[Fld.ok,a5M]at h;unfold Fld.tag U64;omega
def kN(b:List UInt8):Fld×Nat×Nat:=
 if(rd b).2.2≠0 then(Fld.zero,0,(rd b).2.2)
 else if(rd b).1 / 8<1\/536870911<(rd b).1 / 8\/((rd b).1%8≠0/\(rd b).1%8≠2) then(Fld.zero,0,4)
 else if(rd (b.drop (rd b).2.1)).2.2≠0 then(Fld.zero,0,(rd (b.drop (rd b).2.1)).2.2)
 else if(rd b).1%8=0 then(⟨((rd b).1 / 8:Nat),0,(rd (b.drop (rd b).2.1)).1,[]⟩,(rd b).2.1+(rd (b.drop (rd b).2.1)).2.1,0)
 else if b.length-(rd b).2.1-(rd (b.drop (rd b).2.1)).2.1<(rd (b.drop (rd b).2.1)).1 then(Fld.zero,0,5)
 else(⟨((rd b).1 / 8:Nat),2,0,(b.drop ((rd b).2.1+(rd (b.drop (rd b).2.1)).2.1)).take (rd (b.drop (rd b).2.1)).1⟩,(rd b).2.1+(rd (b.drop (rd b).2.1)).2.1+(rd (b.drop (rd b).2.1)).1,0)
theorem yy(b:List UInt8):(kN b).2.1<=b.length/\((kN b).2.2=0->1<=(kN b).2.1)/\(kN b).2.2<7/\(kN b).1.byt.length<=b.length:=by
 have h1:=Nc b;have h2:=Nc (b.drop (rd b).2.1);have h3:=(Gt b).2;rw[a5Y]at h2;unfold kN;split
 ·simp[Fld.zero];omega
 split
 ·simp[Fld.zero]
 split
 ·simp[Fld.zero];omega
 rename_i e1 _ e2;have e1':(rd b).2.2=0:=by omega
 have:=h3 e1';split
 ·simp;omega
 split
 ·simp[Fld.zero]
 ·simp;omega
def uL:Nat->List UInt8->Nat->List Fld->List Fld×Nat×Nat
 |0,_,_,acc=>(acc,0,0)
 |k+1,b,at_,acc=>if b.length=0 then(acc,0,0)else if acc.length=1024 then([],at_,3)else if(kN b).2.2≠0 then([],at_,(kN b).2.2)
  else uL k (b.drop (kN b).2.1) (at_+(kN b).2.1) (acc++[(kN b).1])
def oy(b:List UInt8):List Fld×Nat×Nat:=uL (b.length+1) b 0 []
def jr(l:List Fld):List UInt8:=(l.map Fld.enc).flatten
theorem nX(l:List Fld) (f:Fld):jr (f::l)=f.enc++jr l:=by unfold jr;simp
theorem QL(b:List UInt8) (h:(kN b).2.2=0):(kN b).1.ok=true/\(kN b).1.enc=b.take (kN b).2.1/\(kN b).1.val<U64:=by
 have i1:=Gt b;have i2:=Gt (b.drop (rd b).2.1);have l1:=Nc b;have l2:=Nc (b.drop (rd b).2.1);unfold kN at h⊢;generalize hr:rd b=r at *
 obtain⟨t,z,e⟩:=r;generalize hr2:rd (b.drop z)=r2 at *
 obtain⟨t2,z2,e2⟩:=r2;simp only at i1 i2 l1 l2 h⊢;by_cases h0:e=0
 ·subst h0;rw[a5U (by simp)]at h⊢;obtain⟨a1,a2,a3,a4⟩:=i1.2 rfl;by_cases h1:t / 8<1\/536870911<t / 8\/(t%8≠0/\t%8≠2)
  ·rw[a5W h1]at h;simp at h
  rw[a5U h1]at h⊢;by_cases h2:e2=0
  ·subst h2;rw[a5U (by simp)]at h⊢;obtain⟨c1,c2,c3,c4⟩:=i2.2 rfl;by_cases h3:t%8=0
   ·rw[a5W h3];refine⟨?_,?_,by simpa using c4⟩
    ·simp[Fld.ok];omega
    ·have ht:(Fld.tag ⟨((t / 8:Nat):Int),0,t2,[]⟩)=t:=by unfold Fld.tag;simp only;omega
     simp only[Fld.enc];rw[ht,a3];simp only[a6x];rw[c3,a8t]
   ·rw[a5U h3]at h⊢;by_cases h4:b.length-z-z2<t2
    ·rw[a5W h4]at h;simp at h
    ·rw[a5U h4];refine⟨?_,?_,by unfold U64;simp⟩
     ·simp[Fld.ok];omega
     ·have ht:(Fld.tag ⟨((t / 8:Nat):Int),2,0,(b.drop (z+z2)).take t2⟩)=t:=by unfold Fld.tag;simp only;omega
      have hlen:((b.drop (z+z2)).take t2).length=t2:=by simp;omega
      simp only[Fld.enc];rw[ht,a3,a5U (by decide),hlen,c3,<-a50,<-a8t,<-a8t]
  ·rw[a5W h2]at h;simp at h;omega
 ·rw[a5W h0]at h;simp at h;omega
theorem Gu:∀(k:Nat) (b:List UInt8) (a:Nat) (acc:List Fld),b.length<k->
  ((uL k b a acc).2.2=0->(uL k b a acc).2.1=0/\∃m,(uL k b a acc).1=acc++m/\jr m=b/\(∀f∈m,f.ok=true/\f.val<U64)/\(acc.length<=1024->acc.length+m.length<=1024))/\
  ((uL k b a acc).2.2≠0->(uL k b a acc).1=[]/\(uL k b a acc).2.1<a+b.length)
 |0,_,_,_,h=>by omega
 |k+1,b,a,acc,h=>by
  rw[uL];by_cases h1:b.length=0
  ·rw[a5W h1];exact⟨λ_=>⟨rfl,[],by simp,by rw[a6f h1];rfl,by simp,by simp⟩,λh=>absurd rfl h⟩
  rw[a5U h1];by_cases h2:acc.length=1024
  ·rw[a5W h2];simp;omega
  rw[a5U h2];by_cases h3:(kN b).2.2=0
  ·rw[a5U (by simpa using h3)];have hb:=yy b;have hs:=hb.2.1 h3;obtain⟨i1,i2,i3⟩:=QL b h3;have ih:=Gu k (b.drop (kN b).2.1) (a+(kN b).2.1) (acc++[(kN b).1]) (by rw[a5Y];omega);refine⟨λh0=>?_,λh0=>?_⟩
   ·obtain⟨j1,m,j2,j3,j4,j5⟩:=ih.1 h0;clear ih;refine⟨j1,(kN b).1::m,by rw[j2];simp,by rw[nX,j3,i2,a6d],?_,λhl=>?_⟩
    ·intro f hf;rcases List.mem_cons.1 hf with rfl|hf
     ·exact⟨i1,i3⟩
     ·exact j4 f hf
    ·have:=j5 (by rw[a5K,a51];omega);rw[a5K,a51]at this;rw[a54];omega
   ·obtain⟨j1,j2⟩:=ih.2 h0;rw[a5Y]at j2;clear ih;have hb1:=hb.1;exact⟨j1,by omega⟩
  ·rw[a5W (by simpa using h3)];refine⟨λh0=>absurd h0 h3,λ_=>⟨rfl,by simp;omega⟩⟩
theorem Lc(b:List UInt8):((oy b).2.2=0->(oy b).2.1=0/\jr (oy b).1=b/\(∀f∈(oy b).1,f.ok=true/\f.val<U64)/\(oy b).1.length<=1024)/\
  ((oy b).2.2≠0->(oy b).1=[]/\(oy b).2.1<b.length):=by
 have h:=Gu (b.length+1) b 0 [] (by omega);refine⟨λh0=>?_,λh0=>?_⟩
 ·obtain⟨h1,m,h2,h3,h4,h5⟩:=h.1 h0;rw[oy,h2]at *
  exact⟨h1,by simpa using h3,by simpa using h4,by simpa using h5⟩
 ·obtain⟨h1,h2⟩:=h.2 h0;exact⟨h1,by rw[oy];omega⟩
theorem Gv(f:Fld) (t:List UInt8) (hok:f.ok=true) (hv:f.val<U64) (hb:f.byt.length<U64):kN (f.enc++t)=(f,f.enc.length,0):=by
 have htag:=Fld.tag_lt f hok;simp only[Fld.ok,a5M]at hok;obtain⟨num,kind,val,byt⟩:=f;simp only at hok hv hb htag;have e8:(8*num+kind).toNat / 8=num.toNat:=by omega
 simp only[Fld.enc,Fld.tag]at htag⊢;rcases hok.2.2 with⟨hk,hl⟩|⟨hk,hl⟩
 ·subst hk;have hby:byt=[]:=a6f hl;subst hby
  rw[a5W rfl,a50];have r1:=Lb (8*num+0).toNat (enc val++t) htag.1;have r2:=Lb val t hv;unfold kN;rw[r1];simp only[ne_eq,not_true_eq_false,a6o,a6s,r2];rw[a5U (by omega),a5W (by omega)];simp only[a5K];congr 2;omega
 ·subst hk;subst hl;rw[a5U (by omega),a50,a50];have r1:=Lb (8*num+2).toNat (enc byt.length++(byt++t)) htag.1;have r2:=Lb byt.length (byt++t) hb;unfold kN;rw[r1];simp only[ne_eq,not_true_eq_false,a6o,a6s,r2];rw[a5U (by omega),a5U (by omega),a5U (by simp only[a5K];omega)];have d1:(enc (8*num+2).toNat++(enc byt.length++(byt++t))).drop ((enc (8*num+2).toNat).length+(enc byt.length).length)=byt++t:=by
   rw[<-a50,<-a5K,a6s]
  rw[d1,a6H];simp only[a5K];have e9:(((8*num+2).toNat / 8:Nat):Int)=num:=by omega
  rw[e9];congr 2;omega
theorem enc_pos(n:Nat):1<=(enc n).length:=by
 by_cases h:n<128
 ·rw[Gr n h];simp
 ·rw[Gq n (by omega)];simp
theorem Fld.enc_pos(f:Fld):1<=f.enc.length:=by
 have:=Proofs.YtjbgdpjgfjnkbaaGreatDoor.Am.enc_pos f.tag;unfold Fld.enc;rw[a5K];omega
theorem Cz:∀(l:List Fld) (k a:Nat) (acc:List Fld),(jr l).length<k->acc.length+l.length<=1024->(∀f∈l,f.ok=true/\f.val<U64/\f.byt.length<U64)->uL k (jr l) a acc=(acc++l,0,0)
 |[],0,_,_,h,_,_=>by omega
 |[],k+1,a,acc,_,_,_=>by rw[uL];simp[jr]
 |f::l,0,_,_,h,_,_=>by omega
 |f::l,k+1,a,acc,h,hl,hf=>by
  have hp:=Fld.enc_pos f;rw[nX,a5K]at h;rw[a54]at hl;have h1:=hf f (by simp);have hr:=Gv f (jr l) h1.1 h1.2.1 h1.2.2;rw[nX,uL,a5U (by rw[a5K];omega),a5U (by omega),hr];simp only[ne_eq,not_true_eq_false,a6o,a6s];rw[Cz l k _ _ (by omega) (by rw[a5K,a51];omega) (λg hg=>hf g (by simp[hg]))];simp
theorem AP(l:List Fld) (hl:l.length<=1024) (hf:∀f∈l,f.ok=true/\f.val<U64/\f.byt.length<U64):oy (jr l)=(l,0,0):=by
 rw[oy,Cz l _ 0 [] (by omega) (by simpa using hl) hf];rfl
theorem CA:∀(l:List Fld) (k a:Nat) (acc:List Fld),(jr l).length<k->acc.length<=1024->1024<acc.length+l.length->(∀f∈l,f.ok=true/\f.val<U64/\f.byt.length<U64)->
  uL k (jr l) a acc=([],a+(jr (l.take (1024-acc.length))).length,3)
 |[],_,_,_,_,h,h',_=>by simp at h';omega
 |f::l,0,_,_,h,_,_,_=>by omega
 |f::l,k+1,a,acc,h,ha,hl,hf=>by
  have hp:=Fld.enc_pos f;rw[nX,a5K]at h;rw[a54]at hl;have h1:=hf f (by simp);have hr:=Gv f (jr l) h1.1 h1.2.1 h1.2.2;rw[nX,uL,a5U (by rw[a5K];omega)];by_cases h2:acc.length=1024
  ·rw[a5W h2,h2];simp[jr]
  ·rw[a5U h2,hr];simp only[ne_eq,not_true_eq_false,a6o,a6s];rw[CA l k _ _ (by omega) (by rw[a5K,a51];omega) (by rw[a5K,a51];omega) (λg hg=>hf g (by simp[hg]))];rw[a5K,a51];obtain⟨q,hq⟩:∃q,1024-acc.length=q+1:=⟨1024-acc.length-1,by omega⟩;rw[hq,a6N,nX,a5K,show 1024-(acc.length+1)=q from by omega];congr 2;omega
end Go.Proofs.YtjbgdpjgfjnkbaaGreatDoor.Am
namespace Go.Proofs.YtjbgdpjgfjnkbaaGreatDoor.Am
open Go Go.Proofs Go.Lib
noncomputable def od:List (String×DataW Unit):=[("unicode/utf8.acceptRanges",Rows.laid_unicode_utf8_acceptRanges),("unicode/utf8.first",Rows.laid_unicode_utf8_first)]
theorem Wh:(Rows.laid_unicode_utf8_first:DataW Unit)=Lib.firstData:=by kernel_rfl
theorem So:(Rows.laid_unicode_utf8_acceptRanges:DataW Unit)=Lib.acceptData:=by kernel_rfl
theorem a4f:U8Extra Tryz.prog Tryz.decode_ren:=⟨by kernel_rfl,by kernel_rfl,by kernel_rfl,by kernel_rfl,by kernel_rfl,by kernel_rfl,by kernel_rfl⟩
theorem Hk{W:World}(h:laidMetH Tryz.prog od W):Lib.Utf8Tabs 2 3 W:=by
 rw[MakeChecks.laidMetH_plain _ _ _ (by kernel_rfl)]at h;have h4:=Lib.laidMet.reads h (.head _);have h3:=Lib.laidMet.reads h (.tail _ (.head _));rw[Wh]at h3;rw[So]at h4;exact utf8Tabs_of_reads (ρ:=Tryz.decode_ren) {Tryz.decode with} a4f h3 h4
theorem JA{w:World}{b o:Nat}{v:Value}(h:w.cell? ⟨b,o,none⟩=some v):b<w.heap.size:=by
 rcases a6y b w.heap.size with h1|h1
 ·exact h1
 ·have:w.heap[b]?=none:=Array.getElem?_eq_none h1;simp[World.cell?,this]at h
theorem lR{W:World}(h:laidMetH Tryz.prog od W):Wi (Old W) W:=by
 obtain⟨h1,h2⟩:=Hk h;have key:∀g j v,GT g j=some v->W.cell? ⟨g,j,none⟩=some v:=by
  intro g j v e;by_cases h0:g=2
  ·subst h0;by_cases hj:j<256
   ·simp[GT,hj]at e;rw[h1 j hj,<-e]
   ·simp[GT,hj]at e
  ·by_cases h3:g=3
   ·subst h3;by_cases hj:j<32
    ·simp[GT,hj]at e;by_cases hm:j%2=0
     ·have:=(h2 (j / 2) (by omega)).1;rw[show 2*(j / 2)=j by omega]at this;rw[a5W hm]at e;rw[this,<-e]
     ·have:=(h2 (j / 2) (by omega)).2;rw[show 2*(j / 2)+1=j by omega]at this;rw[a5U hm]at e;rw[this,<-e]
    ·simp[GT,hj]at e
   ·exfalso;unfold GT at e;split at e
    ·exact h0 rfl
    ·exact h3 rfl
    ·cases e
 exact λg j v e=>⟨key g j v e,JA (key g j v e)⟩
end Go.Proofs.YtjbgdpjgfjnkbaaGreatDoor.Am
