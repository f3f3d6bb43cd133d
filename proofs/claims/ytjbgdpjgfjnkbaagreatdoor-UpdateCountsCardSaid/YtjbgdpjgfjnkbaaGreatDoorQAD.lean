/- Texts laid together: PWireT, PWireU, PMemo, PMemo2, PMakeD, PValid, PForm, PReadT, PCodec, PTxN, PFieldsSame, PDec. No conditions. -/
import Derived.KernelRfl
import Derived.Test.YtjbgdpjgfjnkbaaGreatDoorQAC
namespace Go.Proofs.YtjbgdpjgfjnkbaaGreatDoor.Am
open Go
theorem IZ(b:List UInt8) (n:Int):gz b n=H9 b n:=by
 unfold gz H9;rw[a6j];rfl
theorem rj(b:List UInt8) (n:Nat) (hn:n<U64) (hb:b.length<=1000000000000):H9 b ((n:Nat):Int)=some (b++enc n):=by
 rw[<-J1];have h10:=nW n hn;unfold H9 bB;rw[D8];refine⟨a5H (by unfold LIM LEN;omega),?_⟩;refine sb (S:=Int×List UInt8) (inv:=λv=>∃m:Nat,v.1=((m:Nat):Int)/\m<U64/\v.2++enc m=b++enc n) (m:=λv=>v.1.toNat) ?_ ⟨n,rfl,hn,rfl⟩ (by unfold U64 at hn;simp only[a5J];omega);rintro⟨v,l⟩ ⟨m,rfl,hm,he⟩;simp only at he;have hl:l.length+(enc m).length=b.length+(enc n).length:=by rw[<-a5K,he,a5K]
 have hw:wu8 ((m:Nat):Int)=((m:Nat):Int)%256:=by rw[wu8,IntKind.wrap_u8]
 have hx:=KQ (UInt8.ofNat (m%128+128));unfold U64 at hm;simp only[Y9,Y8,hw,a34,A5,D8,A1,C4,A8,B5,a5M,a5L,a5J];refine⟨λh=>⟨hx,⟨by unfold LIM;omega,by unfold LEN;omega⟩,?_⟩,λh=>⟨⟨by omega,by omega⟩,⟨by unfold LIM;omega,by unfold LEN;omega⟩,?_⟩⟩
 ·have e7:((m:Nat):Int) / 2^7=((m / 128:Nat):Int):=by omega
  rw[e7,UInt8.ofNat_toNat];rw[Gq m (by omega)]at he;refine⟨⟨m / 128,rfl,by unfold U64;omega,by rw[<-he,a50,a7C]⟩,by simp only[a5J];omega⟩
 ·have e8:UInt8.ofNat (Int.toNat (((m:Nat):Int)%256))=UInt8.ofNat m:=by
   congr 1;omega
  rw[e8,<-he,Gr m (by omega)]
theorem YL(b:List UInt8) (hb:b.length<=1000000000000):P6 b=some ((((rd b).1:Nat):Int),(((rd b).2.1:Nat):Int),(((rd b).2.2:Nat):Int)):=by
 rw[<-J1];unfold P6 iT;refine sb (S:=List UInt8×Int×Int) (inv:=λv=>∃n i:Nat,v=(b,((n:Nat):Int),((i:Nat):Int))/\i<=9/\i<=b.length/\n<128^i/\rdF i n (b.drop i)=rd b) (m:=λv=>(10-v.2.2).toNat) ?_ ⟨0,0,rfl,by omega,by omega,by simp,rfl⟩ (by simp);rintro v ⟨n,i,rfl,hi,hib,hn,hr⟩;have hw:B3 (7*((i:Nat):Int))=((7*i:Nat):Int):=by rw[D9] <;> omega
 have hmin:min (7*i) 64=7*i:=by omega
 by_cases hlt:i<b.length
 ·have hd:=a6n hlt;rw[hd]at hr;have hx:=(b[i]).toNat_lt;have hc2:∀(h9:i=9->(b[i]).toNat<=1),¬(i=9/\1<(b[i]).toNat)->¬(0<i/\(b[i]).toNat=0)->Ok (R9 b ((n:Nat):Int) ((i:Nat):Int)) (Nxt (λr=>r=((((rd b).1:Nat):Int),(((rd b).2.1:Nat):Int),(((rd b).2.2:Nat):Int))) λz=>(∃n i:Nat,z=(b,((n:Nat):Int),((i:Nat):Int))/\i<=9/\i<=b.length/\n<128^i/\rdF i n (b.drop i)=rd b)/\(10-z.2.2).toNat<(10-((i:Nat):Int)).toNat):=by
   intro h9 c1 c2;have ho:=YK n (b[i]).toNat i hn hi (by omega) h9;have ho':bits .or .u64 ((n:Nat):Int) (D4 (D4 (bits .and .u8 ((UInt8.toNat b[i]:Nat):Int) 127)*2^(7*i)))=((n+(b[i]).toNat%128*128^i:Nat):Int):=ho;rw[rdF,a5U c1,a5U c2]at hr;simp only[R9,hw,hmin,A5,D8,A1,A8,B5,a5M,a5L,a5J,C9 hlt,ho',C1 (i:=i) (by omega)];refine⟨⟨by omega,by omega⟩,by omega,⟨by omega,by omega⟩,λh=>?_,λh=>?_⟩
   ·rw[a5W (by omega)]at hr;rw[<-hr];rfl
   ·rw[a5U (by omega)]at hr;have hi9:i≠9:=λe=>by have:=h9 e;omega
    have h2:(b[i]).toNat%128*128^i<=127*128^i:=a6k _ (by omega);refine⟨⟨_,i+1,rfl,by omega,by omega,by rw[a7r];omega,hr⟩,by omega⟩
  have hc3:∀c:Bool,(c=true↔(i=9/\1<(b[i]).toNat))->Ok (S0 b ((n:Nat):Int) ((i:Nat):Int) c) (Nxt (λr=>r=((((rd b).1:Nat):Int),(((rd b).2.1:Nat):Int),(((rd b).2.2:Nat):Int))) λz=>(∃n i:Nat,z=(b,((n:Nat):Int),((i:Nat):Int))/\i<=9/\i<=b.length/\n<128^i/\rdF i n (b.drop i)=rd b)/\(10-z.2.2).toNat<(10-((i:Nat):Int)).toNat):=by
   intro c hc;simp only[S0,A5,D8,A1,B5,a5M,a5L,a5J,C9 hlt];refine⟨λh=>?_,λh=>⟨λh0=>⟨⟨by omega,by omega⟩,λh1=>?_,λh1=>?_⟩,λh0=>?_⟩⟩
   ·rw[rdF,a5W (hc.1 h)]at hr;rw[<-hr];rfl
   ·rw[rdF,a5U (λq=>by rw[hc.2 q]at h;cases h),a5W ⟨by omega,by omega⟩]at hr;rw[<-hr];rfl
   ·have q:¬(i=9/\1<(b[i]).toNat):=λq=>by rw[hc.2 q]at h;cases h
    exact hc2 (λe=>by omega) q (λq2=>h1 (by omega))
   ·have q:¬(i=9/\1<(b[i]).toNat):=λq=>by rw[hc.2 q]at h;cases h
    exact hc2 (λe=>by omega) q (λq2=>h0 (by omega))
  simp only[be,A5,D8,A1,B5,a5M,a5L,a5J,C9 hlt];refine⟨λh=>absurd h (by omega),λ_=>⟨λh9=>⟨⟨by omega,by omega⟩,hc3 _ ?_⟩,λh9=>hc3 _ ?_⟩⟩
  ·rw[a5M];omega
  ·exact⟨(λh=>by cases h),λh=>absurd h.1 (by omega)⟩
 ·simp only[be,A5,D8,A1,B5,a5M,a5L,a5J];refine⟨λ_=>?_,λh=>absurd h (by omega)⟩;rw[List.drop_of_length_le (by omega),rdF]at hr;rw[<-hr];rfl
def toF(f:Fld):A3:=(f.num,f.kind,((f.val:Nat):Int),f.byt)
theorem wX(b:List UInt8):jR b=P6 b:=by kernel_rfl
theorem Ld(b:List UInt8) (hb:b.length<=1000000000000):jR b=some ((((rd b).1:Nat):Int),(((rd b).2.1:Nat):Int),(((rd b).2.2:Nat):Int)):=(wX b).trans (YL b hb)
theorem Lf(op:BinOp) (a b:Int):0<=bits op .u64 a b/\bits op .u64 a b<18446744073709551616:=by
 unfold bits;rw[IntKind.wrap_u64];omega
theorem a2P{n:Int}(h0:0<=n) (h1:n<18446744073709551616):bits .and .u64 n 7=n%8:=by
 obtain⟨m,rfl⟩:∃m:Nat,n=m:=⟨n.toNat,by omega⟩;have hm:m<2^64:=by omega
 unfold bits;rw[IntKind.wrap_u64];have e:(BitVec.ofInt IntKind.u64.bits (m:Int) &&& BitVec.ofInt IntKind.u64.bits 7).toNat=m%8:=by
  have e1:(BitVec.ofInt IntKind.u64.bits (m:Int)).toNat=m:=by
   rw[a8i];show((m:Int)%((2^64:Nat):Int)).toNat=m;omega
  have e2:(BitVec.ofInt IntKind.u64.bits 7).toNat=7:=by rfl
  rw[a74,e1,e2];exact a7g m 3
 simp only[e];omega
theorem UT(b:List UInt8) (hb:b.length<=1000000000000):nd b=some (toF (kN b).1,(((kN b).2.1:Nat):Int),(((kN b).2.2:Nat):Int)):=by
 rw[<-J1];have l1:=Nc b;have l2:=Nc (b.drop (rd b).2.1);rw[a5Y]at l2;have hr2:=Ld (b.drop (rd b).2.1) (by rw[a5Y];omega);have e1:=Ld b hb;unfold kN;generalize hq:rd b=q at *
 obtain⟨t,z,e⟩:=q;simp only at l1 l2 hr2 e1⊢;generalize hq2:rd (b.drop z)=q2 at *
 obtain⟨t2,z2,e2⟩:=q2;simp only at l2 hr2⊢;unfold U64 at l1 l2;have e7:B3 (bits .and .u64 ((t:Nat):Int) 7)=((t%8:Nat):Int):=by rw[a2P (by omega) (by omega),D9] <;> omega
 have e8:((t:Nat):Int) / 2^3=((t / 8:Nat):Int):=by omega
 have ez:B3 (((z:Nat):Int)+((z2:Nat):Int))=((z+z2:Nat):Int):=by rw[D9] <;> omega
 have ew:B3 (((t / 8:Nat):Nat):Int)=((t / 8:Nat):Int):=by rw[D9] <;> omega
 have el:D4 (((b.length-(z+z2):Nat):Nat):Int)=((b.length-(z+z2):Nat):Int):=by rw[Q0] <;> omega
 have c1:¬(t / 8<1\/536870911<t / 8\/(t%8≠0/\t%8≠2))->e=0->Ok (fI b ((z:Nat):Int) ((t%8:Nat):Int) ((t / 8:Nat):Int) ((0:Int),(0:Int),(0:Int),[])) (· =(toF (if e2≠0 then(Fld.zero,0,e2)else if t%8=0 then(⟨(t / 8:Nat),0,t2,[]⟩,z+z2,0)else if b.length-z-z2<t2 then(Fld.zero,0,5) else(⟨(t / 8:Nat),2,0,(b.drop (z+z2)).take t2⟩,z+z2+t2,0)).1,
   (((if e2≠0 then(Fld.zero,0,e2)else if t%8=0 then(⟨(t / 8:Nat),0,t2,[]⟩,z+z2,0)else if b.length-z-z2<t2 then(Fld.zero,0,5) else(⟨(t / 8:Nat),2,0,(b.drop (z+z2)).take t2⟩,z+z2+t2,0):Fld×Nat×Nat).2.1:Nat):Int),
   (((if e2≠0 then(Fld.zero,0,e2)else if t%8=0 then(⟨(t / 8:Nat),0,t2,[]⟩,z+z2,0)else if b.length-z-z2<t2 then(Fld.zero,0,5) else(⟨(t / 8:Nat),2,0,(b.drop (z+z2)).take t2⟩,z+z2+t2,0):Fld×Nat×Nat).2.2:Nat):Int))):=by
  intro hc he;simp only[fI,A5,D8,A4,A1,a5M,a5L,a5R,a5Q,a5J,a52,hr2,ez,ew,a5Y,el];refine⟨by omega,λh=>?_,λh=>⟨λh1=>?_,λh1=>⟨by omega,λh2=>?_,λh2=>?_⟩⟩⟩
  ·rw[a5W (by omega)];rfl
  ·rw[a5U (by omega),a5W (by omega)];rw[show((t%8:Nat):Int)=0 from h1];rfl
  ·rw[a5U (by omega),a5U (by omega),a5W (by omega)];rfl
  ·have ht2:B3 ((t2:Nat):Int)=((t2:Nat):Int):=by rw[D9] <;> omega
   have et:B3 (((z+z2:Nat):Int)+((t2:Nat):Int))=((z+z2+t2:Nat):Int):=by rw[D9] <;> omega
   have e82:t%8=2:=by omega
   simp only[ht2,et,a5T,a5Y];rw[a5U (by omega),a5U (by omega),a5U (by omega)];refine⟨by omega,⟨by unfold LIM;omega,by unfold LEN;omega⟩,?_⟩;rw[e82];rfl
 simp only[nd,e1,e7,e8,A5,A4,A1,a5M,a5L,a5R,a5Q];refine⟨λh=>?_,λh=>⟨λh1=>?_,λh1=>⟨λh2=>?_,λh2=>⟨λh3=>⟨λh4=>?_,λh4=>?_⟩,λh3=>?_⟩⟩⟩⟩
 ·rw[a5W (by omega)];rfl
 ·rw[a5U (by omega),a5W (by omega)];rfl
 ·rw[a5U (by omega),a5W (by omega)];rfl
 ·rw[a5U (by omega),a5W (by omega)];rfl
 ·rw[a5U (by omega),a5U (by omega)];exact c1 (by omega) (by omega)
 ·rw[a5U (by omega),a5U (by omega)];exact c1 (by omega) (by omega)
theorem pB(b:List UInt8) (hb:b.length<=1000000000000):im b=some ((oy b).1.map toF,(((oy b).2.1:Nat):Int),(((oy b).2.2:Nat):Int)):=by
 rw[<-J1];unfold im ne;refine sb (S:=List UInt8×Int×List A3) (inv:=λv=>∃(k a:Nat) (acc:List Fld),v=(b,((a:Nat):Int),acc.map toF)/\a<=b.length/\b.length<a+k/\acc.length<=1024/\uL k (b.drop a) a acc=oy b) (m:=λv=>((b.length:Int)-v.2.1).toNat) ?_ ⟨b.length+1,0,[],rfl,by omega,by omega,by simp,rfl⟩ (by simp;omega);rintro v ⟨k,a,acc,rfl,ha,hk,hacc,hr⟩;have hone:=UT (b.drop a) (by rw[a5Y];omega);have hbd:=yy (b.drop a);rw[a5Y]at hbd;cases k with
 |zero=>exact absurd hk (by omega)
 |succ k=>
  rw[uL]at hr;simp only[cj,oq,A5,D8,A4,A1,C4,A8,B5,a5M,a5L,a5R,a5Q,a5J,a52,a5X,hone];refine⟨λh=>⟨λh1=>?_,λh1=>⟨by omega,λh2=>?_,λh2=>⟨⟨by unfold LIM;omega,by unfold LEN;omega⟩,?_⟩⟩⟩,λh=>?_⟩
  ·rw[a5U (by rw[a5Y];omega),a5W (by omega)]at hr;rw[<-hr];rfl
  ·rw[a5U (by rw[a5Y];omega),a5U (by omega),a5W (by omega)]at hr;rw[<-hr];rfl
  ·rw[a5U (by rw[a5Y];omega),a5U (by omega),a5U (by omega),a6A]at hr;have hz:=hbd.2.1 (by omega);have ew:B3 (((a:Nat):Int)+(((kN (b.drop a)).2.1:Nat):Int))=((a+(kN (b.drop a)).2.1:Nat):Int):=by rw[D9] <;> omega
   rw[ew];refine⟨⟨k,_,acc++[(kN (b.drop a)).1],by rw[a53];rfl,by omega,by omega,by simp;omega,hr⟩,by omega⟩
  ·rw[a5W (by rw[a5Y];omega)]at hr;rw[<-hr];rfl
theorem Gw(f:Fld) (h:f.ok=true):W7 (toF f)=some true/\nG (toF f)=some true:=by
 simp only[Fld.ok,a5M]at h;obtain⟨num,kind,val,byt⟩:=f;simp only at h;have d1:decide (num<1)=false:=a5N (by omega);have d2:decide (536870911<num)=false:=a5N (by omega);obtain⟨_,_,⟨rfl,hl⟩|⟨rfl,rfl⟩⟩:=h
 ·have hb:byt=[]:=a6f hl;subst hb;unfold W7 nG toF;simp only[d1,d2,D3];exact⟨rfl,rfl⟩
 ·unfold W7 nG toF;simp only[d1,d2,D3];exact⟨rfl,rfl⟩
theorem QM(b:List UInt8) (f:Fld) (h:f.ok=true) (hv:f.val<U64) (hb:b.length<=100000000000) (hl:f.byt.length<=100000000000):aL b (toF f)=some (b++f.enc,0):=by
 rw[<-J1];have ht:=Fld.tag_lt f h;have hr:=(Gw f h).1;have h':=h;simp only[Fld.ok,a5M]at h';have q1:(toF f).1=f.num:=rfl;have e1:D4 (D4 (D4 f.num*8)+D4 f.kind)=((f.tag:Nat):Int):=by
  rw[ht.2.1,Q0 (n:=f.num) (by omega) (by omega),Q0 (n:=f.kind) (by omega) (by omega),Q0 (n:=f.num*8) (by omega) (by omega),Q0 (by omega) (by omega)];omega
 have e2:=rj b f.tag ht.1 (by omega);have l2:=nW f.tag ht.1;have e3:=rj (b++enc f.tag) f.val hv (by rw[a5K];omega);have e4:D4 ((List.length f.byt:Nat):Int)=((f.byt.length:Nat):Int):=Q0 (by omega) (by omega);have e5:=rj (b++enc f.tag) f.byt.length (by unfold U64;omega) (by rw[a5K];omega);have l5:=nW f.byt.length (by unfold U64;omega);have q3:(toF f).2.2.1=((f.val:Nat):Int):=rfl;have q4:(toF f).2.2.2=f.byt:=rfl;have q2:(toF f).2.1=f.kind:=rfl;simp only[aL,hr,e1,e2,e4,e5,q1,q2,q3,q4,e3,A5,D8,A4,A1,a5M,a5L,a5R,a5Q,a5K];refine⟨λh=>(by cases h),λ_=>⟨λhk=>?_,λhk=>⟨⟨by unfold LIM;omega,by unfold LEN;omega⟩,?_⟩⟩⟩
 ·unfold Fld.enc;rw[a5W hk,a50]
 ·unfold Fld.enc;rw[a5U hk];simp only[a50]
theorem xQ(b:List UInt8) (f:Fld) (h:f.ok=true) (hv:f.val<U64) (hb:b.length<=100000000000) (hl:f.byt.length<=100000000000):cX b (toF f)=some (b++f.enc,0):=by
 rw[<-J1];have ht:=Fld.tag_lt f h;have hr:=(Gw f h).2;have h':=h;simp only[Fld.ok,a5M]at h';have e1:uf (toF f)=some ((f.tag:Nat):Int):=by
  have q1:(toF f).1=f.num:=rfl;have q2:(toF f).2.1=f.kind:=rfl;unfold uf;rw[q1,q2,ht.2.1,D9 (n:=8*f.num) (by omega) (by omega),D9 (by omega) (by omega),Q0 (by omega) (by omega)]
 have e2:=rj b f.tag ht.1 (by omega);have l2:=nW f.tag ht.1;have e3:=rj (b++enc f.tag) f.val hv (by rw[a5K];omega);have e4:D4 ((List.length f.byt:Nat):Int)=((f.byt.length:Nat):Int):=Q0 (by omega) (by omega);have e5:=rj (b++enc f.tag) f.byt.length (by unfold U64;omega) (by rw[a5K];omega);have l5:=nW f.byt.length (by unfold U64;omega);have q3:(toF f).2.2.1=((f.val:Nat):Int):=rfl;have q4:(toF f).2.2.2=f.byt:=rfl;have q2:(toF f).2.1=f.kind:=rfl;simp only[cX,hr,e1,IZ,e2,e4,e5,q2,q3,q4,e3,A5,D8,A4,A1,a5M,a5L,a5R,a5Q,a5K];refine⟨λh=>(by cases h),λ_=>⟨λhk=>?_,λhk=>⟨⟨by unfold LIM;omega,by unfold LEN;omega⟩,?_⟩⟩⟩
 ·unfold Fld.enc;rw[a5W hk,a50]
 ·unfold Fld.enc;rw[a5U hk];simp only[a50]
def byt(s:List UInt8) (p:Nat):Nat:=(s.getD p 0).toNat
theorem Lg(s:List UInt8) (p:Nat):byt s p<256:=(s.getD p 0).toNat_lt
theorem YM(s:List UInt8) (p:Nat):((⟨s.toArray⟩:ByteArray).get! p).toNat=byt s p:=by
 unfold byt;congr 1;show s.toArray[p]! =_;rw[Array.getElem!_eq_getD];simp[List.getD_eq_getElem?_getD];rfl
def Lh(s:List UInt8) (p:Nat):Nat×Nat:=Lib.decodeN (s.length-p) (byt s p) (byt s (p+1)) (byt s (p+2)) (byt s (p+3))
theorem vQ(s:List UInt8) (p:Nat):Utf8.decode ⟨s.toArray⟩ p=Lh s p:=by
 rw[Lib.decode_at];simp only[YM];rfl
theorem UU(s:List UInt8) (p j:Nat):byt (s.drop p) j=byt s (p+j):=by
 simp[byt,List.getD_eq_getElem?_getD,List.getElem?_drop]
theorem El{s:List UInt8}{p:Nat}(h:p<s.length):Lib.decodeGo ⟨(s.drop p).toArray⟩=Lh s p:=by
 unfold Lib.decodeGo;have h0:¬(⟨(s.drop p).toArray⟩:ByteArray).size=0:=by
  show ¬(s.drop p).toArray.size=0;simp;omega
 rw[a5U h0,vQ];unfold Lh;simp only[UU,a5Y,a8e,a7w,a6j]
def qy(s:List UInt8) (p:Nat):Nat:=if(Lh s p).1=65533/\(Lh s p).2=1 then 0 else(Lh s p).2
abbrev fol(n j b:Nat):Prop:=j<n/\128<=b/\b<192
def AQ(n b0 b1 b2 b3:Nat):Nat:=
 if b0<128 then 1
 else if(194<=b0/\b0<224)/\fol n 1 b1 then 2
 else if(224<=b0/\b0<240)/\fol n 1 b1/\fol n 2 b2 then(if(b0=224/\b1<160)\/(b0=237/\160<=b1)then 0 else 3)
 else if(240<=b0/\b0<245)/\fol n 1 b1/\fol n 2 b2/\fol n 3 b3 then(if(b0=240/\b1<144)\/(b0=244/\144<=b1)then 0 else 4)
 else 0
set_option maxHeartbeats 4000000 in
theorem UV(n b0 b1 b2 b3:Nat) (h0:b0<256) (h1:b1<256) (h2:b2<256) (h3:b3<256) :
  AQ n b0 b1 b2 b3=if(Lib.decodeN n b0 b1 b2 b3).1=65533/\(Lib.decodeN n b0 b1 b2 b3).2=1 then 0 else(Lib.decodeN n b0 b1 b2 b3).2:=by
 by_cases c1:b0<128
 ·simp[AQ,Lib.decodeN,c1];omega
 by_cases c2:b0<224
 ·simp only[AQ,Lib.decodeN,fol,c1,a6o,show b0 / 16≠14 by omega,show b0 / 8≠30 by omega,show ¬ 224<=b0 by omega,show ¬ 240<=b0 by omega,false_and]
  repeat' split
  all_goals omega
 by_cases c3:b0<240
 ·simp only[AQ,Lib.decodeN,fol,c1,a6o,show b0 / 32≠6 by omega,show b0 / 8≠30 by omega,show ¬b0<224 by omega,show ¬ 240<=b0 by omega,false_and,and_false]
  repeat' split
  all_goals omega
 ·simp only[AQ,Lib.decodeN,fol,c1,a6o,show b0 / 32≠6 by omega,show b0 / 16≠14 by omega,show ¬b0<224 by omega,show ¬b0<240 by omega,false_and,and_false]
  repeat' split
  all_goals omega
theorem xR(s:List UInt8) (p:Nat):qy s p=AQ (s.length-p) (byt s p) (byt s (p+1)) (byt s (p+2)) (byt s (p+3)):=by
 rw[UV _ _ _ _ _ (Lg _ _) (Lg _ _) (Lg _ _) (Lg _ _)];rfl
theorem Em(s:List UInt8) (p:Nat):qy s p<=4:=by
 rw[xR];unfold AQ
 repeat' split
 all_goals omega
theorem wY(s:List UInt8) (p:Nat):(UInt8.toNat (List.getD s p (0:UInt8)):Nat)=byt s p:=rfl
theorem tG{s:List UInt8}{p j:Nat}(hl:s.length<=1000000000000000) (hp:p<s.length) (hj:j<=3):K6 s (B3 (((p:Nat):Int)+((j:Nat):Int)))=some (decide (fol (s.length-p) j (byt s (p+j)))):=by
 rw[<-J1];have hw:B3 (((p:Nat):Int)+((j:Nat):Int))=((p+j:Nat):Int):=by rw[D9] <;> omega
 simp only[K6,hw,A5,D8,A1,a5M,a5L,a5J,wY];refine⟨λh=>⟨by omega,λh1=>⟨by omega,?_⟩,λh1=>?_⟩,λh=>?_⟩
 ·rw[decide_eq_decide];omega
 ·symm;rw[a5L];omega
 ·symm;rw[a5L];omega
theorem a2e{s:List UInt8}{p:Nat}(hl:s.length<=1000000000000000) (x:UInt8) (b:Bool) (hb:b=true->p+1<s.length) :
  J6 s ((p:Nat):Int) x b=some ((if b=true then(if(x.toNat=240/\byt s (p+1)<144)\/(x.toNat=244/\144<=byt s (p+1))then 0 else 4)else 0:Nat):Int):=by
 rw[<-J1];have hw:p+1<s.length->B3 (((p:Nat):Int)+1)=((p+1:Nat):Int):=λh=>by rw[D9] <;> omega
 cases b with
 |false=>simp only[J6,A5,D8,A1,a5M,a5L];exact⟨λh=>(by cases h),λ_=>rfl⟩
 |true=>
  have h1:=hb rfl;simp only[J6,hw h1,A5,D8,A1,a5M,a5L,a5J,wY]
  repeat' first | apply And.intro | intro _
  all_goals first | (exfalso;omega) | omega | (rw[a5W trivial,a5W (by omega)];rfl) | (rw[a5W trivial,a5U (by omega)];rfl) | (exfalso;rename_i h;cases h)
theorem a2f{s:List UInt8}{p:Nat}(hl:s.length<=1000000000000000) (hp:p<s.length) (x:UInt8) (b:Bool) (hb:b=true->p+1<s.length) :
  L8 s ((p:Nat):Int) x b=some ((if b=true then(if(x.toNat=224/\byt s (p+1)<160)\/(x.toNat=237/\160<=byt s (p+1))then 0 else 3) else
   if(240<=x.toNat/\x.toNat<245)/\fol (s.length-p) 1 (byt s (p+1))/\fol (s.length-p) 2 (byt s (p+2))/\fol (s.length-p) 3 (byt s (p+3)) then(if(x.toNat=240/\byt s (p+1)<144)\/(x.toNat=244/\144<=byt s (p+1))then 0 else 4)else 0:Nat):Int):=by
 rw[<-J1];have f1:=tG (j:=1) hl hp (by omega);have f2:=tG (j:=2) hl hp (by omega);have f3:=tG (j:=3) hl hp (by omega);rw[show((1:Nat):Int)=1 from rfl]at f1;rw[show((2:Nat):Int)=2 from rfl]at f2;rw[show((3:Nat):Int)=3 from rfl]at f3;cases b with
 |false=>
  have r0:=a2e (p:=p) hl x false (λh=>by cases h);simp only[L8,f1,f2,f3,r0,A5,D8,A4,A1,a5M,a5L,a7M,a6o];refine⟨λh=>(by cases h),λ_=>⟨λh1=>⟨λh2=>⟨λh3=>⟨λh4=>?_,λh4=>?_⟩,λh3=>?_⟩,λh2=>?_⟩,λh1=>?_⟩⟩
  ·rw[a2e hl x _ (λ_=>by omega),A1];simp only[a5M];congr 1;by_cases h5:fol (s.length-p) 3 (byt s (p+3))
   ·have e:(240<=x.toNat/\x.toNat<245)/\fol (s.length-p) 1 (byt s (p+1))/\fol (s.length-p) 2 (byt s (p+2))/\fol (s.length-p) 3 (byt s (p+3)):=⟨by omega,h3,h4,h5⟩;rw[a5W h5,a5W e]
   ·have e:¬((240<=x.toNat/\x.toNat<245)/\fol (s.length-p) 1 (byt s (p+1))/\fol (s.length-p) 2 (byt s (p+2))/\fol (s.length-p) 3 (byt s (p+3))):=λh=>h5 h.2.2.2;rw[a5U h5,a5U e]
  ·rw[a5U (λh=>h4 h.2.2.1)]
  ·rw[a5U (λh=>h3 h.2.1)]
  ·rw[a5U (λh=>by omega)]
  ·rw[a5U (λh=>by omega)]
 |true=>
  have h1:=hb rfl;have hw:B3 (((p:Nat):Int)+1)=((p+1:Nat):Int):=by rw[D9] <;> omega
  simp only[L8,hw,A5,D8,A4,A1,a5M,a5L,a5J,wY];refine⟨λ_=>?_,λh=>by cases h⟩
  repeat' first | apply And.intro | intro _
  all_goals first | (exfalso;omega) | omega | (rw[a5W trivial,a5W (by omega)];rfl) | (rw[a5W trivial,a5U (by omega)];rfl) | (exfalso;rename_i h;cases h)
theorem YN{s:List UInt8}{p:Nat}(hl:s.length<=1000000000000000) (hp:p<s.length):gV s ((p:Nat):Int)=some ((qy s p:Nat):Int):=by
 rw[<-J1,xR];have f1:=tG (j:=1) hl hp (by omega);have f2:=tG (j:=2) hl hp (by omega);rw[show((1:Nat):Int)=1 from rfl]at f1;rw[show((2:Nat):Int)=2 from rfl]at f2;have hx:(List.getD s p (0:UInt8)).toNat=byt s p:=rfl;have c1:∀b,(b=true->fol (s.length-p) 1 (byt s (p+1))/\194<=byt s p/\byt s p<224)->(b=false->¬((194<=byt s p/\byt s p<224)/\fol (s.length-p) 1 (byt s (p+1))))->128<=byt s p->
   Ok (P3 s ((p:Nat):Int) (List.getD s p 0) b) (· =((AQ (s.length-p) (byt s p) (byt s (p+1)) (byt s (p+2)) (byt s (p+3)):Nat):Int)):=by
  intro b hb1 hb2 h128;unfold AQ;rw[a5U (by omega)];cases b with
  |true=>
   have:=hb1 rfl;simp only[P3,A5,A4,A1,a5M,a5L];exact⟨λ_=>by rw[a5W ⟨this.2,this.1⟩];rfl,λh=>(by cases h)⟩
  |false=>
   have:=hb2 rfl;rw[a5U this];have q0:=a2f hl hp (List.getD s p 0) false (λh=>by cases h);simp only[P3,f1,f2,q0,A5,A4,A1,a5M,a5L,hx,a7M,a6o];refine⟨λh=>(by cases h),λ_=>⟨λh1=>⟨λh2=>⟨λh3=>?_,λh3=>?_⟩,λh2=>?_⟩,λh1=>?_⟩⟩
   ·rw[a2f hl hp _ _ (λ_=>by omega),A1,hx];simp only[a5M];congr 1;by_cases h5:fol (s.length-p) 2 (byt s (p+2))
    ·have e:(224<=byt s p/\byt s p<240)/\fol (s.length-p) 1 (byt s (p+1))/\fol (s.length-p) 2 (byt s (p+2)):=⟨by omega,h3,h5⟩;rw[a5W h5,a5W e]
    ·have e:¬((224<=byt s p/\byt s p<240)/\fol (s.length-p) 1 (byt s (p+1))/\fol (s.length-p) 2 (byt s (p+2))):=λh=>h5 h.2.2;rw[a5U h5,a5U e]
   ·have e:¬((224<=byt s p/\byt s p<240)/\fol (s.length-p) 1 (byt s (p+1))/\fol (s.length-p) 2 (byt s (p+2))):=λh=>h3 h.2.1;rw[a5U e]
   ·have e:¬((224<=byt s p/\byt s p<240)/\fol (s.length-p) 1 (byt s (p+1))/\fol (s.length-p) 2 (byt s (p+2))):=λh=>by omega
    rw[a5U e]
   ·have e:¬((224<=byt s p/\byt s p<240)/\fol (s.length-p) 1 (byt s (p+1))/\fol (s.length-p) 2 (byt s (p+2))):=λh=>by omega
    rw[a5U e]
 simp only[gV,f1,A5,D8,A4,A1,a5M,a5L,a5J,hx];refine⟨by omega,λh1=>?_,λh1=>⟨λh2=>⟨λh3=>?_,λh3=>?_⟩,λh2=>?_⟩⟩
 ·unfold AQ;rw[a5W (by omega)];rfl
 ·refine c1 _ (λh=>?_) (λh=>?_) (by omega)
  ·exact⟨a5P h,by omega,by omega⟩
  ·exact λh'=>a57 h h'.2
 ·exact c1 _ (λh=>by cases h) (λ_ h'=>by omega) (by omega)
 ·exact c1 _ (λh=>by cases h) (λ_ h'=>by omega) (by omega)
theorem Li(s:List UInt8) (p:Nat):(Lh s p).2≠0:=by
 unfold Lh Lib.decodeN
 repeat' split
 all_goals simp
theorem Lj{s:List UInt8}{p:Nat}(h:p<s.length):p+qy s p<=s.length:=by
 rw[xR];unfold AQ
 repeat' split
 all_goals omega
def vR(s:List UInt8):Nat->Nat->Nat->Bool
 |0,_,_=>false
 |f+1,p,k=>if p<s.length then(if qy s p=0 then false else vR s f (p+qy s p) (k+1))else decide (k<=64)
def uU(s:List UInt8):Bool:=vR s (s.length+1) 0 0
theorem CB{s:List UInt8}{f p k:Nat}(h:p<s.length) (hf:s.length<p+f):∃f',f=f'+1/\(qy s p=0->vR s f p k=false)/\(qy s p≠0->vR s f p k=vR s f' (p+qy s p) (k+1)/\s.length<p+qy s p+f'):=by
 cases f with
 |zero=>omega
 |succ f=>
  refine⟨f,rfl,λhw=>?_,λhw=>⟨?_,by omega⟩⟩
  ·simp[vR,h,hw]
  ·simp[vR,h,hw]
theorem YO(s:List UInt8) (k p:Int):qj s k [(s,p)] =
  sel (decide (Int.toNat p<List.length s)) (
   chk (decide (Int.toNat p<List.length s)) <|
   chk (decide (Int.toNat p<List.length s)) <|
   chk (decide ((0:Int)<=p/\p<=(((List.length s):Nat):Int)/\(((List.length s):Nat):Int)<=(((List.length s):Nat):Int))) <|
   (P5 (List.drop (Int.toNat p) (List.take (Int.toNat (((List.length s):Nat):Int)) s))).bind λr1=>
   sel (decide (PA s p=65533)) (
    sel (decide (r1.2=1)) (some (.inr false)) (some (.inl (s,B3 (k+1),[(s,Ir s p)])))) (
    some (.inl (s,B3 (k+1),[(s,Ir s p)])))) (
   some (.inr (decide (k<=64)))):=rfl
theorem YP{s:List UInt8}(hl:s.length<=1000000000000000):rJ s=some (uU s):=by
 rw[<-J1];unfold rJ sY;refine sb (S:=List UInt8×Int×List (List UInt8×Int)) (inv:=λv=>∃p k f:Nat,v=(s,((k:Nat):Int),[(s,((p:Nat):Int))])/\k<=p/\p<=s.length/\s.length<p+f/\vR s f p k=uU s) (m:=λv=>s.length+4-(List.headD v.2.2 ([],0)).2.toNat) ?_ ⟨0,0,s.length+1,rfl,by omega,by omega,by omega,rfl⟩ (by simp;omega);rintro v ⟨p,k,f,rfl,hk,hp,hf,hr⟩;simp only[YO,A5,D8,A4,A1,A8,B5,a5M,a5L,a5J,a52];refine⟨λh=>⟨h,h,by omega,?_⟩,λh=>?_⟩
 ·rw[P5,El h,A1];have hrune:PA s ((p:Nat):Int)=(((Lh s p).1:Nat):Int):=by unfold PA;rw[a5J,vQ]
  have hnext:Ir s ((p:Nat):Int)=((p+(Lh s p).2:Nat):Int):=by
   unfold Ir Hu;rw[a5J,vQ,a5W (show p<(⟨s.toArray⟩:ByteArray).size from h)]
  rw[hrune,hnext,C1 (i:=k) (by omega)];obtain⟨f',rfl,m1,m2⟩:=CB (k:=k) h hf;have hw4:=Em s p;have hwi:=Lj h;have cont:qy s p≠0->(∃p_1 k_1 f_1:Nat,((s,((k+1:Nat):Int),[(s,((p+(Lh s p).2:Nat):Int))]):List UInt8×Int×List (List UInt8×Int))=(s,((k_1:Nat):Int),[(s,((p_1:Nat):Int))])/\k_1<=p_1/\p_1<=s.length/\s.length<p_1+f_1/\vR s f_1 p_1 k_1=uU s)/\
    s.length+4-(((p+(Lh s p).2:Nat):Int)).toNat<s.length+4-p:=by
   intro hw;have e:(Lh s p).2=qy s p:=by
    unfold qy at hw⊢;split at hw
    ·exact absurd rfl hw
    ·rename_i hc;rw[a5U hc]
   obtain⟨a1,a2⟩:=m2 hw;rw[e];refine⟨⟨p+qy s p,k+1,f',rfl,by omega,by omega,a2,a1.symm.trans hr⟩,?_⟩;rw[a5J];omega
  simp only;refine⟨λh1=>⟨λh2=>?_,λh2=>cont ?_⟩,λh1=>cont ?_⟩
  ·rw[<-hr,m1 (by unfold qy;rw[a5W ⟨by omega,by omega⟩])]
  ·unfold qy;rw[a5U (λhc=>h2 (by omega))];have:(Lh s p).2≠0:=Li s p;exact this
  ·unfold qy;rw[a5U (λhc=>h1 (by omega))];exact Li s p
 ·rw[<-hr];cases f with
  |zero=>omega
  |succ f=>unfold vR;rw[a5U h,decide_eq_decide];omega
theorem UW{s:List UInt8}(hl:s.length<=1000000000000000):fa s=some (uU s):=by
 have key:Ok (fQ s) λr=>(r.2&&decide (r.1<=64))=uU s:=by
  unfold fQ lz;refine sb (S:=List UInt8×Int×Int) (inv:=λv=>∃p k f:Nat,v=(s,((k:Nat):Int),((p:Nat):Int))/\k<=p/\p<=s.length/\s.length<p+f/\vR s f p k=uU s) (m:=λv=>s.length+4-v.2.2.toNat) ?_ ⟨0,0,s.length+1,rfl,by omega,by omega,by omega,rfl⟩ (by simp;omega);rintro v ⟨p,k,f,rfl,hk,hp,hf,hr⟩;simp only[gW,A5,A4,A1,A8,B5,a5M,a5L,a5J];refine⟨λh=>?_,λh=>?_⟩
  ·have h':p<s.length:=by omega
   obtain⟨f',rfl,m1,m2⟩:=CB (k:=k) h' hf;have hw4:=Em s p;have hwi:=Lj h';rw[YN hl h',A1,C1 (i:=k) (by omega)];have e2:B3 (((p:Nat):Int)+((qy s p:Nat):Int))=((p+qy s p:Nat):Int):=by rw[D9] <;> omega
   simp only[e2,a5J];refine⟨λh1=>?_,λh1=>?_⟩
   ·rw[<-hr,m1 (by omega)];rfl
   ·obtain⟨a1,a2⟩:=m2 (by omega);refine⟨⟨p+qy s p,k+1,f',rfl,by omega,by omega,a2,a1.symm.trans hr⟩,by omega⟩
  ·rw[<-hr];cases f with
   |zero=>omega
   |succ f=>unfold vR;rw[a5U (by omega),a8r,decide_eq_decide];omega
 obtain⟨r,h1,h2⟩:=key;unfold fa;rw[h1,a5I,<-h2];cases r.2 <;> rfl
def tH(n:Int):Prop:=0<=n/\n<18446744073709551616
def Gx(s:List UInt8):Prop:=aR s=true/\s.length<=20
def Ja(a:o5):Prop:=Gx a.1/\tH a.2.1/\tH a.2.2
def Nd(l:List o5):Prop:=l.length<=4/\∀a∈l,Ja a
def UX(s:List UInt8):Prop:=uU s=true/\s.length<=60
def TrM(x:A0):Prop:=Gx x.1/\1<=x.2/\x.2<18446744073709551616
def TxM(t:C2):Prop:=Gx t.1/\tH t.2.1/\(150<=t.2.2.1/\t.2.2.1<=350)/\tH t.2.2.2.1/\UX t.2.2.2.2.1/\(1<=t.2.2.2.2.2.length/\t.2.2.2.2.2.length<=3)/\∀x∈t.2.2.2.2.2,TrM x
def qc:List A0->Int
 |[]=>0
 |x::l=>if aR x.1=true then(if x.2=0 then 12 else qc l)else 10
def lu(t:C2):Int:=
 if aR t.1=true then(if t.2.2.1=0 then 15 else if uU t.2.2.2.2.1=true then(if t.2.2.2.2.2.length=0 then 3 else if 16<t.2.2.2.2.2.length then 3 else qc t.2.2.2.2.2)else 11)else 10
def TxB(t:C2):Prop:=t.1.length<=200000000000000/\t.2.2.2.2.1.length<=200000000000000/\t.2.2.2.2.2.length<=200000000000000/\∀x∈t.2.2.2.2.2,x.1.length<=200000000000000
theorem AR{α:Type}{G:(List A0×Int×Int)->Option ((List A0×Int×Int)⊕Int)}{l:List A0}(hl:l.length<=1000) (_:α)
  (step:∀i (h:i<l.length),G (l,((l.length:Nat):Int),((i:Nat):Int))=some (if aR l[i].1=true then(if l[i].2=0 then .inr 12 else .inl (l,((l.length:Nat):Int),((i+1:Nat):Int)))else .inr 10))
  (stop:G (l,((l.length:Nat):Int),((l.length:Nat):Int))=some (.inr 0)):F8 G (l,((l.length:Nat):Int),0)=some (qc l):=by
 rw[<-J1];refine C8 l (λi (_:Unit)=>(l,((l.length:Nat):Int),((i:Nat):Int))) (λi _=>qc (l.drop i)=qc l) (λi _ hi hv=>?_) (λ_ hv=>?_) (b0:=()) rfl (by omega)
 ·rw[step i hi,A1];rw[a6n hi]at hv;by_cases h1:aR l[i].1=true
  ·by_cases h2:l[i].2=0
   ·rw[a5W h1,a5W h2,B5,<-hv];simp[qc,h1,h2]
   ·rw[a5W h1,a5U h2,A8];refine⟨(),rfl,?_⟩;rw[<-hv];simp[qc,h1,h2]
  ·rw[a5U h1,B5,<-hv];simp[qc,h1]
 ·rw[stop,A1,B5,<-hv,a7b];rfl
theorem UY{t:C2}(h:TxB t):oP t=some (lu t):=by
 obtain⟨h1,h2,h3,h4⟩:=h;have hT:t.2.2.2.2.2.length<=16->nf t.2.2.2.2.2 ((t.2.2.2.2.2.length:Nat):Int) 0=some (qc t.2.2.2.2.2):=λh5=>by
  unfold nf;refine AR (by omega) () (λi hi=>?_) ?_
  ·rw[<-J1];have hn:=IQ (s:=(t.2.2.2.2.2[i]).1) (a6c (h4 _ (a5V hi)) (by omega));simp only[kR,A5,D8,A4,A1,a5M,a5L,a5R,a5Q,a5J,C9 hi,hn,C1 (i:=i) (by omega)];refine⟨λ_=>⟨by omega,λe=>?_,λe=>⟨λe2=>?_,λe2=>?_⟩⟩,λh=>absurd h (by omega)⟩
   ·rw[a5U (by simp[e])]
   ·rw[a5W e,a5W e2]
   ·rw[a5W e,a5U e2]
  ·rw[<-J1];simp only[kR,A5,D8,A4,A1,a5M,a5L,a5R,a5Q,a5J];exact⟨λh=>absurd h (by omega),λ_=>trivial⟩
 rw[<-J1];simp only[oP,IQ (a6c h1 (by omega:(200000000000000:Nat)<=1000000000000000)),YP (a6c h2 (by omega:(200000000000000:Nat)<=1000000000000000)),A5,A4,A1,a5M,a5L,a5R,a5Q];unfold lu;refine⟨λe=>by rw[a5U (by simp[e])],λe=>⟨λe1=>by rw[a5W e,a5W e1],λe1=>⟨λe2=>by rw[a5W e,a5U e1,a5U (by simp[e2])],λe2=>⟨λe3=>by rw[a5W e,a5U e1,a5W e2,a5W (by omega)],λe3=>⟨λe4=>by rw[a5W e,a5U e1,a5W e2,a5U (by omega),a5W (by omega)],λe4=>?_⟩⟩⟩⟩⟩;rw[hT (by omega),A1,a5W e,a5U e1,a5W e2,a5U (by omega),a5U (by omega)]
theorem Gy{t:C2}(h:TxB t):V5 t=some (lu t):=by
 obtain⟨h1,h2,h3,h4⟩:=h;have hT:t.2.2.2.2.2.length<=16->ce t.2.2.2.2.2 ((t.2.2.2.2.2.length:Nat):Int) 0=some (qc t.2.2.2.2.2):=λh5=>by
  unfold ce;refine AR (by omega) () (λi hi=>?_) ?_
  ·rw[<-J1];have hn:=zl (s:=(t.2.2.2.2.2[i]).1) (a6c (h4 _ (a5V hi)) (by omega));simp only[Y3,A5,D8,A4,A1,a5M,a5L,a5R,a5Q,a5J,C9 hi,hn,C1 (i:=i) (by omega)];refine⟨λ_=>⟨by omega,λe=>?_,λe=>⟨λe2=>?_,λe2=>?_⟩⟩,λh=>absurd h (by omega)⟩
   ·rw[a5U (by simp[e])]
   ·rw[a5W e,a5W e2]
   ·rw[a5W e,a5U e2]
  ·rw[<-J1];simp only[Y3,A5,D8,A4,A1,a5M,a5L,a5R,a5Q,a5J];exact⟨λh=>absurd h (by omega),λ_=>trivial⟩
 rw[<-J1];simp only[V5,zl (a6c h1 (by omega:(200000000000000:Nat)<=1000000000000000)),UW (a6c h2 (by omega:(200000000000000:Nat)<=1000000000000000)),A5,A4,A1,a5M,a5L,a5R,a5Q];unfold lu;refine⟨λe=>by rw[a5U (by simp[e])],λe=>⟨λe1=>by rw[a5W e,a5W e1],λe1=>⟨λe2=>by rw[a5W e,a5U e1,a5U (by simp[e2])],λe2=>⟨λe3=>by rw[a5W e,a5U e1,a5W e2,a5W (by omega)],λe3=>⟨λe4=>by rw[a5W e,a5U e1,a5W e2,a5U (by omega),a5W (by omega)],λe4=>?_⟩⟩⟩⟩⟩;rw[hT (by omega),A1,a5W e,a5U e1,a5W e2,a5U (by omega),a5U (by omega)]
theorem TxM.b{t:C2}(h:TxM t):TxB t:=by
 obtain⟨h1,h2,h3,h4,h5,h6,h7⟩:=h;exact⟨by have:=h1.2;omega,by have:=h5.2;omega,by omega,λx hx=>by have:=(h7 x hx).1.2;omega⟩
def sJ(n:Int) (s:List UInt8):List Fld:=if s=[]then []else [⟨n,2,0,s⟩]
def qB(n:Int) (v:Int):List Fld:=if v=0 then []else [⟨n,0,v.toNat,[]⟩]
def trF(x:A0):List Fld:=sJ 1 x.1++qB 2 x.2
def Jb(x:A0):Fld:=⟨6,2,0,jr (trF x)⟩
def hdF(t:C2):List Fld:=sJ 1 t.1++(qB 2 t.2.1++(qB 3 t.2.2.1++(qB 4 t.2.2.2.1++sJ 5 t.2.2.2.2.1)))
def txF(t:C2):List Fld:=hdF t++t.2.2.2.2.2.map Jb
def TrS(x:A0):Prop:=x.1.length<=10000/\tH x.2
def TxS(t:C2):Prop:=t.1.length<=10000/\tH t.2.1/\tH t.2.2.1/\tH t.2.2.2.1/\t.2.2.2.2.1.length<=10000/\t.2.2.2.2.2.length<=2000/\∀x∈t.2.2.2.2.2,TrS x
def EO(n:Nat) (f:Fld):Prop:=f.ok=true/\f.val<U64/\f.byt.length<=n
theorem Fld.enc_leS{f:Fld}{n:Nat}(h:EO n f) (hn:n<=1000000000):f.enc.length<=n+20:=by
 obtain⟨h1,h2,h3⟩:=h;have t1:=nW f.tag (Fld.tag_lt f h1).1;have t2:=nW f.val h2;have t3:=nW f.byt.length (by unfold U64;omega);unfold Fld.enc;rw[a5K];split
 ·omega
 ·rw[a5K];omega
theorem zq(a b:List Fld):jr (a++b)=jr a++jr b:=by unfold jr;simp
theorem Ll:jr []=[]:=rfl
theorem zt(f:Fld):jr [f]=f.enc:=by unfold jr;simp
theorem QN{n:Int}{s:List UInt8}{m:Nat}(h1:1<=n) (h2:n<=100) (hs:s.length<=m):∀f∈sJ n s,EO m f:=by
 intro f hf;unfold sJ at hf;split at hf
 ·cases hf
 ·simp only[a6b]at hf;subst hf;exact⟨by simp[Fld.ok];omega,by unfold U64;simp,hs⟩
theorem Lm{n v:Int}{m:Nat}(h1:1<=n) (h2:n<=100) (hv:tH v):∀f∈qB n v,EO m f:=by
 intro f hf;unfold qB at hf;unfold tH at hv;split at hf
 ·cases hf
 ·simp only[a6b]at hf;subst hf;exact⟨by simp[Fld.ok];omega,by unfold U64;simp only;omega,by simp⟩
theorem oX(n:Int) (s:List UInt8):(sJ n s).length<=1:=by unfold sJ;split <;> simp
theorem qd(n v:Int):(qB n v).length<=1:=by unfold qB;split <;> simp
theorem Nf{m:Nat}{a b:List Fld}(ha:∀f∈a,EO m f) (hb:∀f∈b,EO m f):∀f∈a++b,EO m f:=λf hf=>by
 rcases List.mem_append.1 hf with hf|hf
 ·exact ha f hf
 ·exact hb f hf
theorem Jc{m:Nat}(hm:m<=1000000000):∀{l:List Fld},(∀f∈l,EO m f)->(jr l).length<=l.length*(m+20)
 |[],_=>by simp[jr]
 |f::l,h=>by
  have h1:=Fld.enc_leS (h f (by simp)) hm;have h2:=Jc hm (l:=l) (λg hg=>h g (by simp[hg]));rw[nX,a5K,a54,a6r];omega
theorem QO{x:A0}(h:TrS x):∀f∈trF x,EO 10000 f:=Nf (QN (by omega) (by omega) h.1) (Lm (by omega) (by omega) h.2)
theorem WZ{x:A0}(h:TrS x):(jr (trF x)).length<=20040:=by
 have h1:=Jc (by omega) (QO h);have h2:=oX 1 x.1;have h3:=qd 2 x.2;unfold trF at h1⊢;rw[a5K]at h1;omega
theorem QP{x:A0}(h:TrS x):EO 20040 (Jb x):=⟨by simp[Jb,Fld.ok],by unfold U64;simp[Jb],WZ h⟩
theorem a2g{t:C2}(h:TxS t):∀f∈hdF t,EO 10000 f:=by
 obtain⟨h1,h2,h3,h4,h5,_⟩:=h;exact Nf (QN (by omega) (by omega) h1) (Nf (Lm (by omega) (by omega) h2) (Nf (Lm (by omega) (by omega) h3) (Nf (Lm (by omega) (by omega) h4) (QN (by omega) (by omega) h5))))
theorem QQ(t:C2):(hdF t).length<=5:=by
 have h1:=oX 1 t.1;have h2:=qd 2 t.2.1;have h3:=qd 3 t.2.2.1;have h4:=qd 4 t.2.2.2.1;have h5:=oX 5 t.2.2.2.2.1;unfold hdF;simp only[a5K];omega
theorem a2h{t:C2}(h:TxS t):(jr (hdF t)).length<=50100:=by
 have h1:=Jc (by omega) (a2g h);have h2:=QQ t;omega
theorem EO.mono{m n:Nat}(h:m<=n){f:Fld}(hf:EO m f):EO n f:=⟨hf.1,hf.2.1,by have:=hf.2.2;omega⟩
theorem a2i{t:C2}(h:TxS t):∀f∈txF t,EO 20040 f:=by
 refine Nf (λf hf=>(a2g h f hf).mono (by omega)) λf hf=>?_;obtain⟨x,hx,rfl⟩:=List.mem_map.1 hf;exact QP (h.2.2.2.2.2.2 x hx)
theorem Jd{b s:List UInt8}{n:Int}(h1:1<=n) (h2:n<=100) (hb:b.length<=10000000000) (hs:s.length<=1000000):T0 b n s=some (b++jr (sJ n s)):=by
 rw[<-J1];simp only[T0,A5,D8,A4,A1,a5M,a5L];refine⟨λh=>?_,λh=>⟨by unfold maxLen;omega,?_⟩⟩
 ·unfold sJ;rw[a5W h,Ll,a5Z]
 ·have hf:EO 1000000 (⟨n,2,0,s⟩:Fld):=⟨by simp[Fld.ok];omega,by unfold U64;simp,hs⟩;have hw:=xQ [] ⟨n,2,0,s⟩ hf.1 hf.2.1 (by simp) (by simp only;omega);have hle:=Fld.enc_leS hf (by omega);have hw':cX [] (n,2,(0:Int),s)=some ([]++(⟨n,2,0,s⟩:Fld).enc,0):=hw;rw[hw',A1,a6w];dsimp only;refine⟨⟨by unfold LIM;omega,by unfold LEN;omega⟩,?_⟩;unfold sJ;rw[a5U h,zt]
theorem En{b:List UInt8}{n v:Int}(h1:1<=n) (h2:n<=100) (hb:b.length<=10000000000) (hv:tH v):N0 b n v=some (b++jr (qB n v)):=by
 rw[<-J1];unfold tH at hv;simp only[N0,A5,D8,A4,A1,a5M,a5L];refine⟨λh=>?_,λh=>?_⟩
 ·unfold qB;rw[a5W h,Ll,a5Z]
 ·have hf:EO 0 (⟨n,0,v.toNat,[]⟩:Fld):=⟨by simp[Fld.ok];omega,by unfold U64;simp only;omega,by simp⟩;have hw:=xQ [] ⟨n,0,v.toNat,[]⟩ hf.1 hf.2.1 (by simp) (by simp);have hle:=Fld.enc_leS hf (by omega);have hw':cX [] (n,0,v,[])=some ([]++(⟨n,0,v.toNat,[]⟩:Fld).enc,0):=by
   rw[<-hw];unfold toF;simp only;rw[show((v.toNat:Nat):Int)=v by omega]
  rw[hw',A1,a6w];dsimp only;refine⟨⟨by unfold LIM;omega,by unfold LEN;omega⟩,?_⟩;unfold qB;rw[a5U h,zt]
theorem YQ{b s:List UInt8}{n:Int}(h1:1<=n) (h2:n<=100) (hb:b.length<=10000000000) (hs:s.length<=1000000):bE b n s=some (b++(⟨n,2,0,s⟩:Fld).enc):=by
 rw[<-J1];have hf:EO 1000000 (⟨n,2,0,s⟩:Fld):=⟨by simp[Fld.ok];omega,by unfold U64;simp,hs⟩;have hw:=xQ [] ⟨n,2,0,s⟩ hf.1 hf.2.1 (by simp) (by simp only;omega);have hle:=Fld.enc_leS hf (by omega);have hw':cX [] (n,2,(0:Int),s)=some ([]++(⟨n,2,0,s⟩:Fld).enc,0):=hw;simp only[bE,hw',D8,A4,A1,a5M,a6w];exact⟨⟨by unfold LIM;omega,by unfold LEN;omega⟩,trivial⟩
theorem Ng{t:C2}(h:TxS t):pR t=some (jr (txF t)):=by
 rw[<-J1];have hh:=h;obtain⟨h1,h2,h3,h4,h5,h6,h7⟩:=h;have hle:=a2h hh;have L:∀{a b:List UInt8} {n:Nat},(a++b).length<=n->a.length<=n:=λh=>by rw[a5K]at h;omega
 have e0:jr (hdF t)=((((jr (sJ 1 t.1)++jr (qB 2 t.2.1))++jr (qB 3 t.2.2.1))++jr (qB 4 t.2.2.2.1))++jr (sJ 5 t.2.2.2.2.1)):=by
  unfold hdF;simp only[zq,a50]
 rw[e0]at hle;have w1:=Jd (b:=[]) (n:=1) (s:=t.1) (by omega) (by omega) (by simp) (by omega);rw[a6w]at w1;have w2:=En (b:=jr (sJ 1 t.1)) (n:=2) (by omega) (by omega) (by have:=L (L (L (L hle)));omega) h2;have w3:=En (b:=jr (sJ 1 t.1)++jr (qB 2 t.2.1)) (n:=3) (by omega) (by omega) (by have:=L (L (L hle));omega) h3;have w4:=En (b:=(jr (sJ 1 t.1)++jr (qB 2 t.2.1))++jr (qB 3 t.2.2.1)) (n:=4) (by omega) (by omega) (by have:=L (L hle);omega) h4;have w5:=Jd (b:=((jr (sJ 1 t.1)++jr (qB 2 t.2.1))++jr (qB 3 t.2.2.1))++jr (qB 4 t.2.2.2.1)) (n:=5) (s:=t.2.2.2.2.1) (by omega) (by omega) (by have:=L hle;omega) (by omega);unfold pR;rw[w1,a5I,w2,a5I,w3,a5I,w4,a5I,w5,a5I,<-e0];rw[<-e0]at hle;unfold so;refine C8 t.2.2.2.2.2 (λi (b:List UInt8)=>(t.2.2.2.2.2,((t.2.2.2.2.2.length:Nat):Int),((i:Nat):Int),b)) (λi b=>i<=t.2.2.2.2.2.length/\b=jr (hdF t++(t.2.2.2.2.2.take i).map Jb)/\b.length<=50100+i*20060) (λi b hi hv=>?_) (λb hv=>?_) ⟨a6p _,by simp,by omega⟩ (by omega)
 ·obtain⟨v1,v2,v3⟩:=hv;have hx:=h7 _ (a5V hi);have htl:=WZ hx;have q1:=Jd (b:=[]) (n:=1) (s:=(t.2.2.2.2.2[i]).1) (by omega) (by omega) (by simp) (by have:=hx.1;omega);rw[a6w]at q1;have e1:jr (trF t.2.2.2.2.2[i])=jr (sJ 1 (t.2.2.2.2.2[i]).1)++jr (qB 2 (t.2.2.2.2.2[i]).2):=by unfold trF;rw[zq]
  have q2:=En (b:=jr (sJ 1 (t.2.2.2.2.2[i]).1)) (n:=2) (by omega) (by omega) (by rw[e1]at htl;have:=L htl;omega) hx.2;rw[<-e1]at q2;have q3:=YQ (b:=b) (n:=6) (s:=jr (trF t.2.2.2.2.2[i])) (by omega) (by omega) (by omega) (by omega);have q4:=Fld.enc_leS (QP hx) (by omega);simp only[mj,A5,D8,A4,A1,A8,B5,a5M,a5L,a5J,C9 hi,q1,q2,q3,C1 (i:=i) (by omega)];refine⟨λ_=>⟨by omega,_,rfl,by omega,?_,?_⟩,λhc=>absurd hc (by omega)⟩
  ·rw[E4 hi,a53,<-a50,zq,<-v2,a55,a6B,zt];rfl
  ·rw[a5K,a6r];have q4':(⟨6,2,0,jr (trF t.2.2.2.2.2[i])⟩:Fld).enc.length<=20040+20:=q4;omega
 ·obtain⟨v1,v2,v3⟩:=hv;simp only[mj,A5,D8,A4,A1,A8,B5,a5M,a5L,a5J];refine⟨λhc=>absurd hc (by omega),λ_=>?_⟩;rw[v2,a52];rfl
theorem Eo{l:List A3}{n:Int}{s:List UInt8}(hl:l.length<=100000) (hs:s.length<=1000000):W6 l n s=some (l++(sJ n s).map toF):=by
 rw[<-J1];simp only[W6,A5,D8,A1,a5M,a5L];refine⟨λh=>?_,λh=>⟨by unfold maxLen;omega,⟨by unfold LIM;omega,by unfold LEN;omega⟩,?_⟩⟩
 ·unfold sJ;rw[a5W h,a6B,a5Z]
 ·unfold sJ;rw[a5U h];rfl
theorem rk{l:List A3}{n v:Int}(hl:l.length<=100000) (hv:tH v):M4 l n v=some (l++(qB n v).map toF):=by
 rw[<-J1];unfold tH at hv;simp only[M4,A5,D8,A1,a5M,a5L];refine⟨λh=>?_,λh=>⟨⟨by unfold LIM;omega,by unfold LEN;omega⟩,?_⟩⟩
 ·unfold qB;rw[a5W h,a6B,a5Z]
 ·unfold qB;rw[a5U h];simp only[a55,a6B,toF];rw[show((v.toNat:Nat):Int)=v by omega]
theorem xS{l:List Fld}{m:Nat}(hm:m<=1000000) (h:∀f∈l,EO m f) (hl:l.length<=10000):E5 (l.map toF)=some (jr l):=by
 rw[<-J1];unfold E5 fH;have hlen:(l.map toF).length=l.length:=a5X ..;refine C8 (l.map toF) (λi (b:List UInt8)=>(l.map toF,(((l.map toF).length:Nat):Int),((i:Nat):Int),b)) (λi b=>i<=l.length/\b=jr (l.take i)/\b.length<=i*1000020) (λi b hi hv=>?_) (λb hv=>?_) ⟨a6p _,by simp[jr],by simp⟩ (by omega)
 ·obtain⟨v1,v2,v3⟩:=hv;have hi':i<l.length:=by omega
  have hf:=h _ (a5V hi');have q:=QM b l[i] hf.1 hf.2.1 (by omega) (by have:=hf.2.2;omega);have q2:=Fld.enc_leS hf (by omega);have q3:List.getD (l.map toF) i D6=toF l[i]:=by rw[C9 hi,a6J]
  simp only[Q3,A5,D8,A4,A1,A8,B5,a5M,a5L,a5J,q3,q,C1 (i:=i) (by omega)];refine⟨λ_=>⟨by omega,_,rfl,by omega,?_,?_⟩,λhc=>absurd hc (by omega)⟩
  ·rw[E4 hi',zq,<-v2,zt]
  ·rw[a5K,a6r];omega
 ·obtain⟨v1,v2,v3⟩:=hv;simp only[Q3,A5,D8,A4,A1,A8,B5,a5M,a5L,a5J];refine⟨λhc=>absurd hc (by omega),λ_=>?_⟩;rw[v2,hlen,a52]
theorem QR{t:C2}(h:TxS t):dx t=some (jr (txF t)):=by
 rw[<-J1];have hh:=h;obtain⟨h1,h2,h3,h4,h5,h6,h7⟩:=h;have hn:=QQ t;have e0:(hdF t).map toF=(((((sJ 1 t.1).map toF++(qB 2 t.2.1).map toF)++(qB 3 t.2.2.1).map toF)++(qB 4 t.2.2.2.1).map toF)++(sJ 5 t.2.2.2.2.1).map toF):=by
  unfold hdF;simp only[a53,a50]
 have hle:(((((sJ 1 t.1).map toF++(qB 2 t.2.1).map toF)++(qB 3 t.2.2.1).map toF)++(qB 4 t.2.2.2.1).map toF)++(sJ 5 t.2.2.2.2.1).map toF).length<=5:=by rw[<-e0,a5X];exact hn
 have L:∀{a b:List A3} {n:Nat},(a++b).length<=n->a.length<=n:=λh=>by rw[a5K]at h;omega
 have w1:=Eo (l:=[]) (n:=1) (s:=t.1) (by simp) (by omega);rw[a6w]at w1;have w2:=rk (l:=(sJ 1 t.1).map toF) (n:=2) (by have:=L (L (L (L hle)));omega) h2;have w3:=rk (l:=(sJ 1 t.1).map toF++(qB 2 t.2.1).map toF) (n:=3) (by have:=L (L (L hle));omega) h3;have w4:=rk (l:=((sJ 1 t.1).map toF++(qB 2 t.2.1).map toF)++(qB 3 t.2.2.1).map toF) (n:=4) (by have:=L (L hle);omega) h4;have w5:=Eo (l:=(((sJ 1 t.1).map toF++(qB 2 t.2.1).map toF)++(qB 3 t.2.2.1).map toF)++(qB 4 t.2.2.2.1).map toF) (n:=5) (s:=t.2.2.2.2.1) (by have:=L hle;omega) (by omega);unfold dx;rw[w1,a5I,w2,a5I,w3,a5I,w4,a5I,w5,a5I,<-e0];unfold lZ;refine C8 t.2.2.2.2.2 (λi (b:List A3)=>(t.2.2.2.2.2,((t.2.2.2.2.2.length:Nat):Int),((i:Nat):Int),b)) (λi b=>i<=t.2.2.2.2.2.length/\b=(hdF t++(t.2.2.2.2.2.take i).map Jb).map toF) (λi b hi hv=>?_) (λb hv=>?_) ⟨a6p _,by simp⟩ (by omega)
 ·obtain⟨v1,v2⟩:=hv;have hx:=h7 _ (a5V hi);have q1:=Eo (l:=[]) (n:=1) (s:=(t.2.2.2.2.2[i]).1) (by simp) (by have:=hx.1;omega);rw[a6w]at q1;have q2:=rk (l:=(sJ 1 (t.2.2.2.2.2[i]).1).map toF) (n:=2) (by rw[a5X];have:=oX 1 (t.2.2.2.2.2[i]).1;omega) hx.2;rw[<-a53]at q2;have q3:=xS (l:=trF t.2.2.2.2.2[i]) (by omega) (QO hx) (by unfold trF;rw[a5K];have:=oX 1 (t.2.2.2.2.2[i]).1;have:=qd 2 (t.2.2.2.2.2[i]).2;omega);have q3':E5 (List.map toF (sJ 1 (t.2.2.2.2.2[i]).1++qB 2 (t.2.2.2.2.2[i]).2))=some (jr (trF t.2.2.2.2.2[i])):=q3;have hbl:b.length<=5+i:=by
   rw[v2,a5X,a5K,a5X,a5T];omega
  simp only[dS,A5,D8,A4,A1,C4,A8,B5,a5M,a5L,a5J,C9 hi,q1,q2,q3',C1 (i:=i) (by omega)];refine⟨λ_=>⟨by omega,⟨by unfold LIM;omega,by unfold LEN;omega⟩,_,rfl,by omega,?_⟩,λhc=>absurd hc (by omega)⟩;rw[E4 hi,a53 (f:=Jb),<-a50,a53 (f:=toF),<-v2];rfl
 ·obtain⟨v1,v2⟩:=hv;rw[a52]at v2;have q:=xS (l:=txF t) (by omega) (a2i hh) (by unfold txF;rw[a5K,a5X];omega);have q':E5 b=some (jr (txF t)):=by rw[v2];exact q
  simp only[dS,A5,D8,A4,A1,C4,A8,B5,a5M,a5L,a5J,q'];exact⟨λhc=>absurd hc (by omega),λ_=>trivial⟩
def Hq(x:A0) (f:Fld):A0:=if f.num=1 then(f.byt,x.2)else if f.num=2 then(x.1,((f.val:Nat):Int))else x
def yO(b:List UInt8):A0:=(oy b).1.foldl Hq ([],0)
def tI(t:C2) (f:Fld):C2:=
 if f.num=1 then(f.byt,t.2)else if f.num=2 then(t.1,((f.val:Nat):Int),t.2.2)else if f.num=3 then(t.1,t.2.1,((f.val:Nat):Int),t.2.2.2)
 else if f.num=4 then(t.1,t.2.1,t.2.2.1,((f.val:Nat):Int),t.2.2.2.2)else if f.num=5 then(t.1,t.2.1,t.2.2.1,t.2.2.2.1,f.byt,t.2.2.2.2.2)
 else if f.num=6 then(t.1,t.2.1,t.2.2.1,t.2.2.2.1,t.2.2.2.2.1,t.2.2.2.2.2++[yO f.byt])else t
def kO:C2:=([],0,0,0,[],[])
def CC(l:List Fld):C2:=l.foldl tI kO
theorem uh(b:List UInt8):(oy b).1.length<=1024:=by
 have h:=Lc b;by_cases h0:(oy b).2.2=0
 ·exact(h.1 h0).2.2.2
 ·rw[(h.2 h0).1];simp
theorem Je(b:List UInt8) (hb:b.length<=1000000000000):mi b=some (yO b):=by
 rw[<-J1];have hl:=uh b;unfold mi yO;rw[pB b hb,a5I];generalize (oy b).1=l at *
 unfold qP;have hm:(l.map toF).length=l.length:=a5X ..;refine C8 (l.map toF) (λi (x:A0)=>((((l.map toF).length:Nat):Int),((i:Nat):Int),(([],(0:Int)):A0),x,l.map toF)) (λi x=>(l.drop i).foldl Hq x=l.foldl Hq ([],0)) (λi x hi hv=>?_) (λx hv=>?_) rfl (by omega)
 ·have hi':i<l.length:=by omega
  have q3:List.getD (l.map toF) i D6=toF l[i]:=by rw[C9 hi,a6J]
  have qn:(toF l[i]).1=l[i].num:=rfl;rw[a6n hi',a67]at hv;simp only[kQ,A5,D8,A1,A8,B5,a5M,a5L,a5J,q3,qn,C1 (i:=i) (by omega)];refine⟨λ_=>⟨by omega,by omega,λh1=>⟨_,rfl,?_⟩,λh1=>⟨λh2=>⟨_,rfl,?_⟩,λh2=>⟨_,rfl,?_⟩⟩⟩,λhc=>absurd hc (by omega)⟩
  ·rw[<-hv];congr 1;unfold Hq;rw[a5W h1];rfl
  ·rw[<-hv];congr 1;unfold Hq;rw[a5U h1,a5W h2];rfl
  ·rw[<-hv];congr 1;unfold Hq;rw[a5U h1,a5U h2]
 ·simp only[kQ,A5,D8,A1,A8,B5,a5M,a5L,a5J];refine⟨λhc=>absurd hc (by omega),λ_=>?_⟩;rw[hm,a7b]at hv;exact hv
theorem Ep(l:List Fld) (hl:l.length<=2000) (hb:∀f∈l,f.byt.length<=1000000000000):wG (l.map toF)=some (CC l):=by
 rw[<-J1];have hm:(l.map toF).length=l.length:=a5X ..;unfold wG wF;refine C8 (l.map toF) (λi (t:C2)=>(l.map toF,(((l.map toF).length:Nat):Int),((i:Nat):Int),([]:List UInt8),(0:Int),(0:Int),(0:Int),([]:List UInt8),t.1,t.2.1,t.2.2.1,t.2.2.2.1,t.2.2.2.2.1,t.2.2.2.2.2)) (λi t=>(l.drop i).foldl tI t=CC l/\t.2.2.2.2.2.length<=i) (λi t hi hv=>?_) (λt hv=>?_) (b0:=kO) ⟨rfl,by simp[kO]⟩ (by omega)
 ·obtain⟨hv,hlt⟩:=hv;have hi':i<l.length:=by omega
  have q3:List.getD (l.map toF) i D6=toF l[i]:=by rw[C9 hi,a6J]
  have ht:=Je l[i].byt (hb _ (a5V hi'));have ht':mi (toF l[i]).2.2.2=some (yO l[i].byt):=ht;have qn:(toF l[i]).1=l[i].num:=rfl;rw[a6n hi',a67]at hv;simp only[pO,A5,D8,A4,A1,A8,B5,a5M,a5L,a5J,q3,C1 (i:=i) (by omega),ht',qn];refine⟨λ_=>⟨by omega,λh1=>?_,λh1=>⟨λh2=>?_,λh2=>⟨λh3=>?_,λh3=>⟨λh4=>?_,λh4=>⟨λh5=>?_,λh5=>⟨λh6=>⟨⟨by unfold LIM;omega,by unfold LEN;omega⟩,?_⟩,λh6=>?_⟩⟩⟩⟩⟩⟩,λhc=>absurd hc (by omega)⟩
  ·refine⟨tI t l[i],?_,hv,?_⟩ <;> (unfold tI;rw[a5W h1])
   ·rfl
   ·exact a6i hlt
  ·refine⟨tI t l[i],?_,hv,?_⟩ <;> (unfold tI;rw[a5U h1,a5W h2])
   ·rfl
   ·exact a6i hlt
  ·refine⟨tI t l[i],?_,hv,?_⟩ <;> (unfold tI;rw[a5U h1,a5U h2,a5W h3])
   ·rfl
   ·exact a6i hlt
  ·refine⟨tI t l[i],?_,hv,?_⟩ <;> (unfold tI;rw[a5U h1,a5U h2,a5U h3,a5W h4])
   ·rfl
   ·exact a6i hlt
  ·refine⟨tI t l[i],?_,hv,?_⟩ <;> (unfold tI;rw[a5U h1,a5U h2,a5U h3,a5U h4,a5W h5])
   ·rfl
   ·exact a6i hlt
  ·refine⟨tI t l[i],?_,hv,?_⟩ <;> (unfold tI;rw[a5U h1,a5U h2,a5U h3,a5U h4,a5U h5,a5W h6]);simp only[a5K,a54,a6v];omega
  ·refine⟨tI t l[i],?_,hv,?_⟩ <;> (unfold tI;rw[a5U h1,a5U h2,a5U h3,a5U h4,a5U h5,a5U h6]);exact a6i hlt
 ·obtain⟨hv,_⟩:=hv;simp only[pO,A5,D8,A4,A1,A8,B5,a5M,a5L,a5J];refine⟨λhc=>absurd hc (by omega),λ_=>?_⟩;rw[hm,a7b]at hv;exact hv
theorem UZ{v:Int}(h:tH v):((v.toNat:Nat):Int)=v:=by unfold tH at h;omega
theorem QS{x:A0}(h:TrS x):yO (jr (trF x))=x:=by
 have hs:=QO h;have hl:(trF x).length<=2:=by unfold trF;rw[a5K];have:=oX 1 x.1;have:=qd 2 x.2;omega
 unfold yO;rw[AP _ (by omega) (λf hf=>⟨(hs f hf).1,(hs f hf).2.1,by have:=(hs f hf).2.2;unfold U64;omega⟩)];obtain⟨s,v⟩:=x;have hv:=UZ h.2;simp only at hv;unfold trF sJ qB;by_cases h1:s=[] <;> by_cases h2:v=0 <;> simp[h1,h2,Hq,hv]
theorem Gz{s:List UInt8}:∀(f p k:Nat),vR s f p k=true->k<=64/\s.length<=p+4*(64-k)
 |0,p,k,h=>by simp[vR]at h
 |f+1,p,k,h=>by
  unfold vR at h;by_cases h1:p<s.length
  ·rw[a5W h1]at h;by_cases h2:qy s p=0
   ·rw[a5W h2]at h;cases h
   ·rw[a5U h2]at h;have ih:=Gz f _ _ h;have hw:=Em s p;omega
  ·rw[a5U h1,a5M]at h;omega
theorem Va{s:List UInt8}(h:uU s=true):s.length<=260:=by
 have:=(Gz _ _ _ h).2;omega
theorem Ln{s:List UInt8}(h:aR s=true):s.length<=20:=by
 unfold aR at h;rw[a5S,a5M]at h;exact h.2.2
def TxN(t:C2):Prop:=tH t.2.1/\tH t.2.2.1/\tH t.2.2.2.1/\∀x∈t.2.2.2.2.2,tH x.2
theorem yz:∀{l:List A0},qc l=0->∀x∈l,x.1.length<=20
 |x::l,h,y,hy=>by
  unfold qc at h;by_cases h1:aR x.1=true
  ·rw[a5W h1]at h;by_cases h2:x.2=0
   ·rw[a5W h2]at h;cases h
   ·rw[a5U h2]at h;rcases List.mem_cons.1 hy with rfl|hy
    ·exact Ln h1
    ·exact yz h y hy
  ·rw[a5U h1]at h;cases h
theorem YR{t:C2}(h:lu t=0) (hn:TxN t):TxS t/\t.2.2.2.2.2.length<=16:=by
 obtain⟨n1,n2,n3,n4⟩:=hn;unfold lu at h;by_cases h1:aR t.1=true
 ·rw[a5W h1]at h;by_cases h2:t.2.2.1=0
  ·rw[a5W h2]at h;cases h
  ·rw[a5U h2]at h;by_cases h3:uU t.2.2.2.2.1=true
   ·rw[a5W h3]at h;by_cases h4:t.2.2.2.2.2.length=0
    ·rw[a5W h4]at h;cases h
    ·rw[a5U h4]at h;by_cases h5:16<t.2.2.2.2.2.length
     ·rw[a5W h5]at h;cases h
     ·rw[a5U h5]at h;have q1:=Ln h1;have q2:=Va h3;exact⟨⟨by omega,n1,n2,n3,by omega,by omega,λx hx=>⟨by have:=yz h x hx;omega,n4 x hx⟩⟩,by omega⟩
   ·rw[a5U h3]at h;cases h
 ·rw[a5U h1]at h;cases h
def a2j(t:C2):List UInt8×Int:=if lu t=0 then(if 4096<(jr (txF t)).length then([],3) else(jr (txF t),0)) else([],lu t)
theorem Nh{t:C2}(hb:TxB t) (hn:TxN t):Z0 t=some (a2j t):=by
 rw[<-J1];unfold Z0 a2j;rw[Gy hb,a5I];by_cases h:lu t=0
 ·have hs:=(YR h hn).1;rw[a5W h];simp only[h,QR hs,A5,A4,A1,a5M,a5L,a5R,a5Q];refine⟨λh=>absurd trivial h,λ_=>⟨λh1=>?_,λh1=>?_⟩⟩
  ·rw[a5W (by omega)]
  ·rw[a5U (by omega)]
 ·rw[a5U h];simp only[A5,A4,A1,a5M,a5L,a5R,a5Q];exact⟨λ_=>trivial,λe=>absurd e h⟩
theorem TxM.n{t:C2}(h:TxM t):TxN t:=by
 obtain⟨h1,h2,h3,h4,h5,h6,h7⟩:=h;exact⟨h2,⟨by omega,by omega⟩,h4,λx hx=>by have:=(h7 x hx).2;exact⟨by omega,by omega⟩⟩
end Go.Proofs.YtjbgdpjgfjnkbaaGreatDoor.Am
namespace Go.Proofs.YtjbgdpjgfjnkbaaGreatDoor.Am.FSm
open Go
theorem Ni{S R:Type}{G1 G2:S->Option (S⊕R)}(inv:S->Prop) (h:∀x,inv x->G1 x=G2 x/\∀y,G1 x=some (.inl y)->inv y):∀{x:S},inv x->F8 G1 x=F8 G2 x:=by
 have key:∀(n:Nat) (x:S),inv x->Hn n G1 x=Hn n G2 x:=by
  intro n
  induction n with
  |zero=>intro x _;rfl
  |succ n ih=>
   intro x hx;obtain⟨h1,h2⟩:=h x hx;unfold Hn;rw[<-h1];cases hg:G1 x with
   |none=>rfl
   |some y=>
    cases y with
    |inl z=>exact ih z (h2 z hg)
    |inr r=>rfl
 intro x hx;exact key _ x hx
theorem Lf(op:BinOp) (a b:Int):0<=bits op .u64 a b/\bits op .u64 a b<18446744073709551616:=by
 unfold bits;rw[IntKind.wrap_u64];omega
theorem a2P{n:Int}(h0:0<=n) (h1:n<18446744073709551616):bits .and .u64 n 7=n%8:=by
 obtain⟨m,rfl⟩:∃m:Nat,n=m:=⟨n.toNat,by omega⟩;have hm:m<2^64:=by omega
 unfold bits;rw[IntKind.wrap_u64];have e:(BitVec.ofInt IntKind.u64.bits (m:Int) &&& BitVec.ofInt IntKind.u64.bits 7).toNat=m%8:=by
  have e1:(BitVec.ofInt IntKind.u64.bits (m:Int)).toNat=m:=by
   rw[a8i];show((m:Int)%((2^64:Nat):Int)).toNat=m;omega
  have e2:(BitVec.ofInt IntKind.u64.bits 7).toNat=7:=by rfl
  rw[a74,e1,e2];exact a7g m 3
 simp only[e];omega
theorem wX(b:List UInt8):jR b=P6 b:=by kernel_rfl
def Vb(b:List UInt8) (r:Int×Int×Int):Prop:=0<=r.1/\r.1<18446744073709551616/\0<=r.2.1/\r.2.1<=b.length/\(r.2.2=0->1<=r.2.1)
theorem Ep(b:List UInt8) (hb:b.length<=1000000000):Ok (P6 b) (Vb b):=by
 unfold P6 iT;refine sb (S:=List UInt8×Int×Int) (inv:=λv=>v.1=b/\0<=v.2.1/\v.2.1<18446744073709551616/\0<=v.2.2/\v.2.2<=b.length/\v.2.2<=9) (m:=λv=>(10-v.2.2).toNat) ?_ ⟨rfl,by simp,by simp,by simp,by simp,by simp⟩ (by simp);rintro⟨v0,n,i⟩ ⟨rfl,h1,h2,h3,h4,h5⟩;simp only at h1 h2 h3 h4 h5;have hg:=KQ (List.getD v0 (Int.toNat i) (0:UInt8));have hw:B3 (7*i)=7*i:=D9 (by omega) (by omega);have hw2:B3 (i+1)=i+1:=D9 (by omega) (by omega);have c2:i<v0.length->(i=9->(List.getD v0 (Int.toNat i) (0:UInt8)).toNat<128)->Ok (R9 v0 n i) (Nxt (Vb v0) λz=>(z.1=v0/\0<=z.2.1/\z.2.1<18446744073709551616/\0<=z.2.2/\z.2.2<=v0.length/\z.2.2<=9)/\(10-z.2.2).toNat<(10-i).toNat):=by
  intro hi h9;simp only[R9,A8,B5,A5,D8,A1,a5M,a5L,a8p,hw,hw2,Vb];have hb2:=Lf .or n (D4 (D4 (bits .and .u8 ((UInt8.toNat (List.getD v0 (Int.toNat i) (0:UInt8)):Nat):Int) 127)*2^(min (Int.toNat (7*i)) 64)));refine⟨⟨h3,hi⟩,by omega,⟨h3,hi⟩,λh=>⟨hb2.1,hb2.2,by omega,by omega,λ_=>by omega⟩,λh=>⟨⟨trivial,hb2.1,hb2.2,by omega,by omega,?_⟩,by omega⟩⟩;have:i≠9:=λe=>by have:=h9 e;omega
  omega
 have c3:∀v14:Bool,i<v0.length->(v14=false->i=9->(List.getD v0 (Int.toNat i) (0:UInt8)).toNat<128)->Ok (S0 v0 n i v14) (Nxt (Vb v0) λz=>(z.1=v0/\0<=z.2.1/\z.2.1<18446744073709551616/\0<=z.2.2/\z.2.2<=v0.length/\z.2.2<=9)/\(10-z.2.2).toNat<(10-i).toNat):=by
  intro v14 hi h9;simp only[S0,B5,A5,D8,A1,a5M,a5L,a8p];refine⟨λ_=>⟨by simp,by simp,by simp,by simp,by simp⟩,λhv=>⟨λ_=>⟨⟨h3,hi⟩,λ_=>⟨by simp,by simp,by simp,by simp,by simp⟩,λ_=>c2 hi (h9 hv)⟩,λ_=>c2 hi (h9 hv)⟩⟩
 simp only[be,B5,A5,D8,A1,a5M,a5L,a8Q];refine⟨λ_=>⟨by simp,by simp,by simp,by simp,by simp⟩,λhi=>⟨λe=>⟨⟨h3,by omega⟩,c3 _ (by omega) λhd _=>?_⟩,λe=>c3 false (by omega) λ_ e'=>absurd e' e⟩⟩;simp only[a5L]at hd;omega
theorem oY{α:Type}(l:List α) (k:Nat):List.drop k (List.take (Int.toNat ((List.length l:Nat):Int)) l)=List.drop k l:=by
 rw[a5J,a52]
theorem a35{n:Int}(h0:0<=n) (h1:n<18446744073709551616):D4 (Int.tdiv n 8)=n / 8:=by
 rw[Int.tdiv_eq_ediv_of_nonneg h0];exact Q0 (by omega) (by omega)
theorem a36{n:Int}(h0:0<=n):Int.tmod n 8=n%8:=Int.tmod_eq_emod_of_nonneg h0
theorem Er(b:List UInt8) (hb:b.length<=1000000000):nd b=gt b/\Ok (gt b) λr=>0<=r.2.1/\r.2.1<=b.length/\(r.2.2=0->1<=r.2.1):=by
 obtain⟨r,hr,h1,h2,h3,h4,h5⟩:=Ep b hb;have e7:B3 (bits .and .u64 r.1 7)=r.1%8:=by rw[a2P h1 h2];exact D9 (by omega) (by omega)
 have e8:B3 (Int.tmod r.1 8)=r.1%8:=by rw[a36 h1];exact D9 (by omega) (by omega)
 have e9:r.1 / 2^3=r.1 / 8:=by rfl
 have ed:=a35 h1 h2;have hc:∀k d,(r.2.2=0)->fI b r.2.1 k (r.1 / 8) d=aa b r.1 r.2.1 k d/\Ok (aa b r.1 r.2.1 k d) λq=>0<=q.2.1/\q.2.1<=b.length/\(q.2.2=0->1<=q.2.1):=by
  intro k d he;have h5':=h5 he;obtain⟨q,hq,q1,q2,q3,q4,q5⟩:=Ep (List.drop (Int.toNat r.2.1) b) (by rw[a5Y];omega);rw[a5Y]at q4;have q4':q.2.1<=b.length-r.2.1:=by omega
  have ew:B3 (r.2.1+q.2.1)=r.2.1+q.2.1:=D9 (by omega) (by omega);have e1:chk (decide ((0:Int)<=r.2.1/\r.2.1<=((List.length b:Nat):Int)/\((List.length b:Nat):Int)<=((List.length b:Nat):Int)))=λ(x:Option (A3×Int×Int))=>x:=by
   rw[a5H (by omega)];rfl
  have elen:(List.length (List.drop (Int.toNat (r.2.1+q.2.1)) b):Int)=b.length-(r.2.1+q.2.1):=by rw[a5Y];omega
  have eu:D4 ((List.length (List.drop (Int.toNat (r.2.1+q.2.1)) b):Nat):Int)=b.length-(r.2.1+q.2.1):=by rw[elen];exact Q0 (by omega) (by omega)
  have eu2:D4 (B3 (B3 (((List.length b:Nat):Int)-r.2.1)-q.2.1))=b.length-(r.2.1+q.2.1):=by
   rw[D9 (n:=((List.length b:Nat):Int)-r.2.1) (by omega) (by omega),D9 (by omega) (by omega),Q0 (by omega) (by omega)];omega
  unfold fI aa;rw[e1];simp only[oY,wX,hq,a5I,ew,eu,eu2,ed];cases hz:decide (q.2.2=0) with
  |false=>exact⟨rfl,⟨_,rfl,by simp,by simp,λe=>by simp at hz;exact absurd e hz⟩⟩
  |true=>
   simp only[a6a];have hz':q.2.2=0:=a5P hz;have q5':=q5 hz';cases hk:decide (k=0) with
   |true=>exact⟨rfl,⟨_,rfl,by simp only;omega,by simp only;omega,λ_=>by simp only;omega⟩⟩
   |false=>
    simp only[sel];have c1:decide ((0:Int)<=r.2.1+q.2.1/\r.2.1+q.2.1<=((List.length b:Nat):Int)/\((List.length b:Nat):Int)<=((List.length b:Nat):Int))=true:=a5H (by omega);rw[c1];cases hv:decide (b.length-(r.2.1+q.2.1)<q.1) with
    |true=>exact⟨rfl,⟨_,rfl,by simp,by simp,λe=>by simp at e⟩⟩
    |false=>
     simp only[a5L,a8p]at hv;have ev:B3 q.1=q.1:=D9 (by omega) (by omega);have ev2:B3 (r.2.1+q.2.1+q.1)=r.2.1+q.2.1+q.1:=D9 (by omega) (by omega);have et:List.drop (Int.toNat (r.2.1+q.2.1)) (List.take (Int.toNat (r.2.1+q.2.1+q.1)) b)=List.take (Int.toNat q.1) (List.drop (Int.toNat (r.2.1+q.2.1)) b):=by
      rw[a8l];congr 1;omega
     have el:(List.take (Int.toNat q.1) (List.drop (Int.toNat (r.2.1+q.2.1)) b)).length<=1000000000:=by
      rw[a5T,a5Y];omega
     simp only[ev,ev2,et];have d1:decide ((0:Int)<=0/\0<=q.1/\q.1<=((List.length (List.drop (Int.toNat (r.2.1+q.2.1)) b):Nat):Int))=true:=a5H (by rw[elen];omega);have d2:decide ((List.length (List.take (Int.toNat q.1) (List.drop (Int.toNat (r.2.1+q.2.1)) b)))*1<=LIM/\(List.length (List.take (Int.toNat q.1) (List.drop (Int.toNat (r.2.1+q.2.1)) b)))<=LEN)=true:=a5H (by unfold LIM LEN;omega);have d3:decide ((0:Int)<=r.2.1+q.2.1/\r.2.1+q.2.1<=r.2.1+q.2.1+q.1/\r.2.1+q.2.1+q.1<=((List.length b:Nat):Int))=true:=a5H (by omega);have d4:decide ((0+(List.length (List.take (Int.toNat q.1) (List.drop (Int.toNat (r.2.1+q.2.1)) b))))*1<=LIM/\0+(List.length (List.take (Int.toNat q.1) (List.drop (Int.toNat (r.2.1+q.2.1)) b)))<=LEN)=true:=a5H (by unfold LIM LEN;omega);rw[d1,d2,d3,d4];exact⟨rfl,⟨_,rfl,by simp only;omega,by simp only;omega,λ_=>by simp only;omega⟩⟩
 unfold nd gt;simp only[wX,hr,a5I,e7,e8,ed,e9];cases hz:decide (r.2.2=0) with
 |false=>exact⟨rfl,⟨_,rfl,by simp,by simp,λe=>by simp at hz;exact absurd e hz⟩⟩
 |true=>
  have hz':r.2.2=0:=a5P hz;simp only[a6a];cases h1:decide (r.1 / 8<1) with
  |true=>exact⟨rfl,⟨_,rfl,by simp,by simp,λe=>by simp at e⟩⟩
  |false=>
   cases h2:decide (536870911<r.1 / 8) with
   |true=>exact⟨rfl,⟨_,rfl,by simp,by simp,λe=>by simp at e⟩⟩
   |false=>
    cases h3:decide (r.1%8=0) with
    |true=>exact hc _ ((0:Int),(0:Int),(0:Int),[]) hz'
    |false=>
     cases h4:decide (r.1%8=2) with
     |true=>exact hc _ ((0:Int),(0:Int),(0:Int),[]) hz'
     |false=>exact⟨rfl,⟨_,rfl,by simp,by simp,λe=>by simp at e⟩⟩
theorem fields_same(b:List UInt8) (hb:b.length<=1000000000):im b=K3 b/\Ok (K3 b) λr=>r.1.length<=1024:=by
 have hd:∀i:Int,(List.drop (Int.toNat i) b).length<=1000000000:=λi=>by rw[a5Y];omega
 refine⟨?_,?_⟩
 ·unfold im ne K3 gu;refine Ni (S:=List UInt8×Int×List A3) (inv:=λv=>v.1=b/\v.2.2.length<=1024) ?_ ⟨rfl,by simp⟩;rintro⟨v0,i,l⟩ ⟨h0,hl⟩;simp only at h0 hl;subst h0;obtain⟨r,hr,_⟩:=(Er _ (hd i)).2;have e:=(Er _ (hd i)).1;have e2:decide (((List.length l:Nat):Int)=1024)=decide (1024<=((List.length l:Nat):Int)):=by
   rw[decide_eq_decide];omega
  have e3:cj v0 i l=J3 v0 i l:=by
   simp only[cj,J3,oY,e,e2];rfl
  refine⟨e3,λy hy=>?_⟩;by_cases hi:0<=i
  ·have h:Ok (J3 v0 i l) (Nxt (λ_=>True) λz=>z.1=v0/\z.2.2.length<=1024):=by
    simp only[J3,oY,hr,a5I,cQ,A8,B5,A5,D8,A1,C4,a5M,a5L,a5R,a5Q,a8p,a8Q];refine⟨λh=>⟨λ_=>trivial,λh4=>⟨⟨hi,by omega,by omega⟩,λ_=>trivial,λh5=>⟨⟨by unfold LIM;omega,by unfold LEN;omega⟩,?_⟩⟩⟩,λ_=>trivial⟩;simp only[a5K,a54,a6v];exact⟨trivial,by omega⟩
   obtain⟨y',e',h'⟩:=h;have hy':cj v0 i l=some (.inl y):=hy;rw[e3,e']at hy';injection hy' with hy';subst hy';exact h'
  ·exfalso;have hy':cj v0 i l=some (.inl y):=hy;rw[e3]at hy';have:J3 v0 i l=some (.inl y)->0<=i:=by
    unfold J3;cases decide (i<((List.length v0:Nat):Int)) with
    |false=>intro h;cases h
    |true=>
     cases decide (1024<=((List.length l:Nat):Int)) with
     |true=>intro h;cases h
     |false=>
      intro h;have:=(jL h).1;have:=a5P this;exact this.1
   exact hi (this hy')
 ·unfold K3 gu;refine sb (S:=List UInt8×Int×List A3) (inv:=λv=>v.1=b/\v.2.2.length<=1024/\0<=v.2.1/\v.2.1<=b.length) (m:=λv=>((b.length:Int)-v.2.1).toNat) ?_ ⟨rfl,by simp,by simp,by simp⟩ (by simp;omega);rintro⟨v0,i,l⟩ ⟨h0,hl,hi,hi2⟩;simp only at h0 hl hi hi2;subst h0;obtain⟨r,hr,h1,h2,h3⟩:=(Er _ (hd i)).2;rw[a5Y]at h2;simp only[J3,oY,hr,a5I,cQ,A8,B5,A5,D8,A1,C4,a5M,a5L,a5R,a5Q,a8p,a8Q];refine⟨λh=>⟨λ_=>by simp,λh4=>⟨⟨hi,by omega,by omega⟩,λ_=>by simp,λh5=>⟨⟨by unfold LIM;omega,by unfold LEN;omega⟩,?_⟩⟩⟩,λ_=>hl⟩;have h6:=h3 h5;have ew:B3 (i+r.2.1)=i+r.2.1:=D9 (by omega) (by omega);simp only[ew,a5K,a54,a6v];exact⟨⟨trivial,by omega,by omega,by omega⟩,by omega⟩
end Go.Proofs.YtjbgdpjgfjnkbaaGreatDoor.Am.FSm
namespace Go.Proofs.YtjbgdpjgfjnkbaaGreatDoor.Am
open Go
theorem Nj{f:Fld}(h:f.ok=true):f.byt.length<=f.enc.length:=by
 simp only[Fld.ok,a5M]at h;unfold Fld.enc;rw[a5K];split
 ·omega
 ·rw[a5K];omega
theorem yA:∀{l:List Fld},(∀f∈l,f.ok=true)->∀f∈l,f.byt.length<=(jr l).length
 |g::l,h,f,hf=>by
  rw[nX,a5K];rcases List.mem_cons.1 hf with rfl|hf
  ·have:=Nj (h f (by simp));omega
  ·have:=yA (λq hq=>h q (by simp[hq])) f hf;omega
theorem rm(b:List UInt8):∀f∈(oy b).1,f.ok=true/\f.val<U64/\f.byt.length<=b.length:=by
 have h:=Lc b;by_cases h0:(oy b).2.2=0
 ·obtain⟨_,h2,h3,_⟩:=h.1 h0;intro f hf;have:=yA (λq hq=>(h3 q hq).1) f hf;rw[h2]at this;exact⟨(h3 f hf).1,(h3 f hf).2,this⟩
 ·rw[(h.2 h0).1];intro f hf;cases hf
theorem GA:∀(l:List Fld) (x:A0),(∀f∈l,f.val<U64/\f.byt.length<=10000)->TrS x->TrS (l.foldl Hq x)
 |[],_,_,h=>h
 |f::l,x,hf,h=>by
  refine GA l (Hq x f) (λg hg=>hf g (by simp[hg])) ?_;have h1:=hf f (by simp);unfold U64 at h1;unfold Hq;split
  ·exact⟨h1.2,h.2⟩
  split
  ·exact⟨h.1,by unfold tH;simp only;omega⟩
  ·exact h
theorem Xa{b:List UInt8}(hb:b.length<=10000):TrS (yO b):=by
 refine GA _ _ (λf hf=>?_) ⟨by simp,by decide,by decide⟩;have:=rm b f hf;exact⟨this.2.1,by omega⟩
def TxK(k:Nat) (t:C2):Prop:=t.1.length<=10000/\tH t.2.1/\tH t.2.2.1/\tH t.2.2.2.1/\t.2.2.2.2.1.length<=10000/\t.2.2.2.2.2.length<=k/\∀x∈t.2.2.2.2.2,TrS x
theorem GB:∀(l:List Fld) (t:C2) (k:Nat),(∀f∈l,f.val<U64/\f.byt.length<=10000)->TxK k t->TxK (k+l.length) (l.foldl tI t)
 |[],_,_,_,h=>h
 |f::l,t,k,hf,h=>by
  have h1:=hf f (by simp);unfold U64 at h1;have hv:tH ((f.val:Nat):Int):=by unfold tH;omega
  have ih:=GB l (tI t f) (k+1) (λg hg=>hf g (by simp[hg])) (by
   obtain⟨a1,a2,a3,a4,a5,a6,a7⟩:=h;unfold tI;split
   ·exact⟨h1.2,a2,a3,a4,a5,a6i a6,a7⟩
   split
   ·exact⟨a1,hv,a3,a4,a5,a6i a6,a7⟩
   split
   ·exact⟨a1,a2,hv,a4,a5,a6i a6,a7⟩
   split
   ·exact⟨a1,a2,a3,hv,a5,a6i a6,a7⟩
   split
   ·exact⟨a1,a2,a3,a4,h1.2,a6i a6,a7⟩
   split
   ·refine⟨a1,a2,a3,a4,a5,by simp only[a5K,a54,a6v];omega,λx hx=>?_⟩;rcases List.mem_append.1 hx with hx|hx
    ·exact a7 x hx
    ·simp only[a6b]at hx;subst hx;exact Xa h1.2
   ·exact⟨a1,a2,a3,a4,a5,a6i a6,a7⟩)
  rw[a67,a54,show k+(l.length+1)=k+1+l.length by omega];exact ih
theorem a2k{l:List Fld}(hl:l.length<=2000) (h:∀f∈l,f.val<U64/\f.byt.length<=10000):TxS (CC l):=by
 have:=GB l kO 0 h ⟨by simp[kO],⟨by decide,by decide⟩,⟨by decide,by decide⟩,⟨by decide,by decide⟩,by simp[kO],by simp[kO],by simp[kO]⟩;obtain⟨a1,a2,a3,a4,a5,a6,a7⟩:=this;exact⟨a1,a2,a3,a4,a5,by unfold CC;omega,a7⟩
theorem TxS.b{t:C2}(h:TxS t):TxB t:=by
 obtain⟨a1,_,_,_,a5,a6,a7⟩:=h;exact⟨by omega,by omega,by omega,λx hx=>by have:=(a7 x hx).1;omega⟩
theorem Vc{L:List Fld}{raw:List UInt8}(hL:∀f∈L,f.ok=true/\f.val<U64/\f.byt.length<U64) (h:jr L=raw) (h0:(oy raw).2.2=0):(oy raw).1=L:=by
 subst h;rcases a6y 1024 L.length with hl|hl
 ·have:=CA L ((jr L).length+1) 0 [] (by omega) (by simp) (by simpa using hl) hL;rw[oy,this]at h0;cases h0
 ·rw[AP L hl hL]
def iM(raw:List UInt8):C2×Int:=
 if 4096<raw.length then(kO,3)else if(oy raw).2.2≠0 then(kO,4)else if jr (txF (CC (oy raw).1))=raw then
  (if lu (CC (oy raw).1)=0 then(CC (oy raw).1,0) else(kO,lu (CC (oy raw).1))) else(kO,4)
theorem YS{raw:List UInt8}(h:raw.length<=4096):TxS (CC (oy raw).1):=a2k (by have:=uh raw;omega) (λf hf=>by have:=rm raw f hf;exact⟨this.2.1,by omega⟩)
theorem QT{raw:List UInt8}(hraw:raw.length<=140737488351232):pn raw=some (iM raw):=by
 rw[<-J1];unfold iM;have hz:(([],(0:Int),(0:Int),(0:Int),[],[]):C2)=kO:=rfl;by_cases h:4096<raw.length
 ·rw[a5W h];simp only[pn,A5,A4,A1,a5M,a5L,a5R,a5Q,hz];exact⟨λ_=>trivial,λhc=>absurd hc (by omega)⟩
 ·rw[a5U h];have hs:=YS (raw:=raw) (by omega);have hr:=Ep (oy raw).1 (by have:=uh raw;omega) (λf hf=>by have:=rm raw f hf;omega);simp only[pn,A5,A4,A1,a5M,a5L,a5R,a5Q,hz,pB raw (by omega),hr,Ng hs,rH,UY hs.b];refine⟨λhc=>absurd hc (by omega),λ_=>⟨λh1=>?_,λh1=>⟨λh2=>?_,λh2=>⟨λh3=>?_,λh3=>?_⟩⟩⟩⟩
  ·rw[a5W (by omega)]
  ·rw[a5U (by omega),a5U h2]
  ·rw[a5U (by omega),a5W h2,a5U h3]
  ·rw[a5U (by omega),a5W h2,a5W h3]
def Nk(f:Fld):Prop:=(f.num=1/\f.kind=2)\/(f.num=2/\f.kind=0)
instance (f:Fld):Decidable (Nk f):=by unfold Nk;infer_instance
def BE(b:List UInt8):Bool:=(oy b).1.all (λf=>decide (Nk f))&&(decide ((oy b).2.2=0)&&decide (jr (trF (yO b))=b))
theorem Xb{l:List Fld}{p:Fld->Bool}{i:Nat}(h:i<l.length) (hn:p l[i]=false):l.all p=false:=by
 rw[List.all_eq_false];exact⟨l[i],a5V h,by simp[hn]⟩
theorem QU{l:List Fld}{p:Fld->Bool}(h:∀j (hj:j<l.length),p l[j]=true):l.all p=true:=by
 rw[a7a];intro x hx;obtain⟨j,hj,rfl⟩:=List.mem_iff_getElem.1 hx;exact h j hj
theorem GC{b:List UInt8}(hb:b.length<=10000):Ok (cR b) λr=>r.2=BE b/\(BE b=true->r.1=yO b):=by
 have hl:=uh b;have hs:=Xa hb;have hf:=pB b (by omega);rw[(FSm.fields_same b (by omega)).1]at hf;unfold cR;rw[hf,a5I];have hT:yO b=(oy b).1.foldl Hq ([],0):=rfl;have hR:BE b=((oy b).1.all (λf=>decide (Nk f))&&(decide ((oy b).2.2=0)&&decide (jr (trF (yO b))=b))):=rfl;generalize hq:(oy b).1=l at *
 generalize (oy b).2.2=err at *
 have hm:(l.map toF).length=l.length:=a5X ..;unfold jw;refine C8 (l.map toF) (λi (x:A0)=>(b,((err:Nat):Int),(((l.map toF).length:Nat):Int),((i:Nat):Int),(([],(0:Int)):A0),x,l.map toF)) (λi x=>(∀j (hj:j<l.length),j<i->Nk l[j])/\(l.drop i).foldl Hq x=yO b) (λi x hi hv=>?_) (λx hv=>?_) ⟨λj hj h=>by omega,by rw[hT];rfl⟩ (by omega)
 ·obtain⟨hv1,hv2⟩:=hv;have hi':i<l.length:=by omega
  have q3:List.getD (l.map toF) i D6=toF l[i]:=by rw[C9 hi,a6J]
  have qn:(toF l[i]).1=l[i].num:=rfl;have qk:(toF l[i]).2.1=l[i].kind:=rfl;rw[a6n hi',a67]at hv2;have no:¬Nk l[i]->∀y:A0,(false=BE b/\(BE b=true->y=yO b)):=λhn y=>by
   have e:BE b=false:=by rw[hR,Xb hi' (by simpa using hn)];rfl
   rw[e];exact⟨rfl,λh=>by cases h⟩
  have yes:Nk l[i]->∀y:A0,y=Hq x l[i]->∃b':A0,((b,((err:Nat):Int),(((l.map toF).length:Nat):Int),((i+1:Nat):Int),(([],(0:Int)):A0),y,l.map toF):List UInt8×Int×Int×Int×A0×A0×List A3)=(b,((err:Nat):Int),(((l.map toF).length:Nat):Int),((i+1:Nat):Int),(([],(0:Int)):A0),b',l.map toF)/\(∀j (hj:j<l.length),j<i+1->Nk l[j])/\(l.drop (i+1)).foldl Hq b'=yO b:=λho y hy=>by
   refine⟨y,rfl,λj hj hlt=>?_,by rw[hy];exact hv2⟩;by_cases e:j=i
   ·subst e;exact ho
   ·exact hv1 j hj (by omega)
  simp only[am,al,ak,A5,D8,A1,C4,A8,B5,a5M,a5L,a5J,q3,qn,qk,C1 (i:=i) (by omega)];refine⟨λ_=>⟨by omega,by omega,λh1=>⟨λh2=>?_,λh2=>⟨λh3=>?_,λh3=>⟨λh4=>?_,λh4=>?_⟩⟩⟩,λh1=>⟨λh2=>?_,λh2=>⟨λh3=>⟨λh4=>?_,λh4=>?_⟩,λh3=>⟨λh4=>?_,λh4=>?_⟩⟩⟩⟩,λhc=>absurd hc (by omega)⟩
  all_goals first
   |(exfalso;omega)
   |contradiction
   |exact no (by unfold Nk;omega) _
   |(refine yes (by unfold Nk;omega) _ ?_;unfold Hq;rw[a5W h1];rfl)
   |(refine yes (by unfold Nk;omega) _ ?_;unfold Hq;rw[a5U h1,a5W h3];rfl)
   |skip
 ·obtain⟨hv1,hv2⟩:=hv;rw[hm,a7b]at hv2;have hx:x=yO b:=hv2;subst hx;have hall:l.all (λf=>decide (Nk f))=true:=QU λj hj=>by simpa using hv1 j hj (by omega)
  have q1:=Eo (l:=[]) (n:=1) (s:=(yO b).1) (by simp) (by have:=hs.1;omega);rw[a6w]at q1;have q2:=rk (l:=(sJ 1 (yO b).1).map toF) (n:=2) (by rw[a5X];have:=oX 1 (yO b).1;omega) hs.2;rw[<-a53]at q2;have q4:=xS (l:=trF (yO b)) (by omega) (QO hs) (by unfold trF;rw[a5K];have:=oX 1 (yO b).1;have:=qd 2 (yO b).2;omega);have q4':E5 (List.map toF (sJ 1 (yO b).1++qB 2 (yO b).2))=some (jr (trF (yO b))):=q4;simp only[am,eQ,A5,D8,A4,A1,C4,B5,a5M,a5L,a5J,q1,q2,q4',G8];refine⟨λhc=>absurd hc (by omega),λ_=>⟨λh1=>⟨?_,λ_=>trivial⟩,λh1=>⟨?_,λ_=>trivial⟩⟩⟩
  ·rw[hR,hall,a5H (show err=0 by omega)];rfl
  ·rw[hR,hall,a5N (show ¬err=0 by omega)];rfl
def Jf(f:Fld):Prop:=(f.num=1/\f.kind=2)\/(f.num=2/\f.kind=0)\/(f.num=3/\f.kind=0)\/(f.num=4/\f.kind=0)\/(f.num=5/\f.kind=2)\/(f.num=6/\f.kind=2/\BE f.byt=true)
instance (f:Fld):Decidable (Jf f):=by unfold Jf;infer_instance
end Go.Proofs.YtjbgdpjgfjnkbaaGreatDoor.Am
