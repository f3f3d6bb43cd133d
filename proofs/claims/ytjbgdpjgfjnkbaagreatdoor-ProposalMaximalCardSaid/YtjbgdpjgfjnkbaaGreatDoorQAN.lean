/- Texts laid together: PWireT, PWireU, PMemo. No conditions. -/
import Derived.Test.YtjbgdpjgfjnkbaaGreatDoorFAll
import Derived.Test.YtjbgdpjgfjnkbaaGreatDoorQAI
import Derived.KernelRfl
namespace Go.Proofs.YtjbgdpjgfjnkbaaGreatDoor.Am
open Go
theorem Gz (b:List UInt8) (n:Int):fO b n=H3 b n:=by
 unfold fO H3;rw [a3z];rfl
theorem pR (b:List UInt8) (n:Nat) (hn:n < U64) (hb:b.length<=1000000000000):H3 b ((n:Nat):Int)=some (b ++ enc n):=by
 rw [<-J3];have h10:=nf n hn;unfold H3 bb;rw [D4];refine⟨a2S (by unfold LIM LEN;omega),?_⟩;refine eX (S:=Int × List UInt8) (inv:=λv=>∃ m:Nat,v.1=((m:Nat):Int)/\m < U64/\v.2 ++ enc m=b ++ enc n) (m:=λv=>v.1.toNat) ?_ ⟨n,rfl,hn,rfl⟩ (by unfold U64 at hn;simp only [a2T];omega);rintro⟨v,l⟩ ⟨m,rfl,hm,he⟩;simp only at he;have hl:l.length + (enc m).length=b.length + (enc n).length:=by rw [<-a2V,he,a2V]
 have hw:wu8 ((m:Nat):Int)=((m:Nat):Int) % 256:=by rw [wu8,IntKind.wrap_u8]
 have hx:=Im (UInt8.ofNat (m % 128 + 128));unfold U64 at hm;simp only [W7,W6,hw,a1h,A7,D4,A4,C9,B5,B8,a2W,a2U,a2T];refine⟨λh=>⟨hx,⟨by unfold LIM;omega,by unfold LEN;omega⟩,?_⟩,λh=>⟨⟨by omega,by omega⟩,⟨by unfold LIM;omega,by unfold LEN;omega⟩,?_⟩⟩
 ·have e7:((m:Nat):Int) / 2 ^ 7=((m / 128:Nat):Int):=by omega
  rw [e7,UInt8.ofNat_toNat];rw [DX m (by omega)] at he;refine⟨⟨m / 128,rfl,by unfold U64;omega,by rw [<-he,a3c,a4L]⟩,by simp only [a2T];omega⟩
 ·have e8:UInt8.ofNat (Int.toNat (((m:Nat):Int) % 256))=UInt8.ofNat m:=by
   congr 1;omega
  rw [e8,<-he,DY m (by omega)]
theorem VV (b:List UInt8) (hb:b.length<=1000000000000):N8 b=some ((((rd b).1:Nat):Int),(((rd b).2.1:Nat):Int),(((rd b).2.2:Nat):Int)):=by
 rw [<-J3];unfold N8 im;refine eX (S:=List UInt8 × Int × Int) (inv:=λv=>∃ n i:Nat,v=(b,((n:Nat):Int),((i:Nat):Int))/\i<=9/\i<=b.length/\n < 128 ^ i/\rdF i n (b.drop i)=rd b) (m:=λv=>(10 - v.2.2).toNat) ?_ ⟨0,0,rfl,by omega,by omega,by simp,rfl⟩ (by simp);rintro v ⟨n,i,rfl,hi,hib,hn,hr⟩;have hw:A9 (7 * ((i:Nat):Int))=((7 * i:Nat):Int):=by rw [C8] <;> omega
 have hmin:min (7 * i) 64=7 * i:=by omega
 by_cases hlt:i < b.length
 ·have hd:=a3M hlt;rw [hd] at hr;have hx:=(b[i]).toNat_lt;have hc2:∀ (h9:i=9->(b[i]).toNat<=1),¬ (i=9/\1 < (b[i]).toNat)->¬ (0 < i/\(b[i]).toNat=0)->Ok (Q5 b ((n:Nat):Int) ((i:Nat):Int)) (Nxt (λr=>r=((((rd b).1:Nat):Int),(((rd b).2.1:Nat):Int),(((rd b).2.2:Nat):Int))) λz=>(∃ n i:Nat,z=(b,((n:Nat):Int),((i:Nat):Int))/\i<=9/\i<=b.length/\n < 128 ^ i/\rdF i n (b.drop i)=rd b)/\(10 - z.2.2).toNat < (10 - ((i:Nat):Int)).toNat):=by
   intro h9 c1 c2;have ho:=VU n (b[i]).toNat i hn hi (by omega) h9;have ho':bits .or .u64 ((n:Nat):Int) (D7 (D7 (bits .and .u8 ((UInt8.toNat b[i]:Nat):Int) 127) * 2 ^ (7 * i)))=((n + (b[i]).toNat % 128 * 128 ^ i:Nat):Int):=ho;rw [rdF,a25 c1,a25 c2] at hr;simp only [Q5,hw,hmin,A7,D4,A4,B5,B8,a2W,a2U,a2T,E0 hlt,ho',D2 (i:=i) (by omega)];refine⟨⟨by omega,by omega⟩,by omega,⟨by omega,by omega⟩,λh=>?_,λh=>?_⟩
   ·rw [a28 (by omega)] at hr;rw [<-hr];rfl
   ·rw [a25 (by omega)] at hr;have hi9:i ≠ 9:=λe=>by have:=h9 e;omega
    have h2:(b[i]).toNat % 128 * 128 ^ i<=127 * 128 ^ i:=a3v _ (by omega);refine⟨⟨_,i + 1,rfl,by omega,by omega,by rw [a4C];omega,hr⟩,by omega⟩
  have hc3:∀ c:Bool,(c=true ↔ (i=9/\1 < (b[i]).toNat))->Ok (Q6 b ((n:Nat):Int) ((i:Nat):Int) c) (Nxt (λr=>r=((((rd b).1:Nat):Int),(((rd b).2.1:Nat):Int),(((rd b).2.2:Nat):Int))) λz=>(∃ n i:Nat,z=(b,((n:Nat):Int),((i:Nat):Int))/\i<=9/\i<=b.length/\n < 128 ^ i/\rdF i n (b.drop i)=rd b)/\(10 - z.2.2).toNat < (10 - ((i:Nat):Int)).toNat):=by
   intro c hc;simp only [Q6,A7,D4,A4,B8,a2W,a2U,a2T,E0 hlt];refine⟨λh=>?_,λh=>⟨λh0=>⟨⟨by omega,by omega⟩,λh1=>?_,λh1=>?_⟩,λh0=>?_⟩⟩
   ·rw [rdF,a28 (hc.1 h)] at hr;rw [<-hr];rfl
   ·rw [rdF,a25 (λq=>by rw [hc.2 q] at h;cases h),a28 ⟨by omega,by omega⟩] at hr;rw [<-hr];rfl
   ·have q:¬ (i=9/\1 < (b[i]).toNat):=λq=>by rw [hc.2 q] at h;cases h
    exact hc2 (λe=>by omega) q (λq2=>h1 (by omega))
   ·have q:¬ (i=9/\1 < (b[i]).toNat):=λq=>by rw [hc.2 q] at h;cases h
    exact hc2 (λe=>by omega) q (λq2=>h0 (by omega))
  simp only [aE,A7,D4,A4,B8,a2W,a2U,a2T,E0 hlt];refine⟨λh=>absurd h (by omega),λ_=>⟨λh9=>⟨⟨by omega,by omega⟩,hc3 _ ?_⟩,λh9=>hc3 _ ?_⟩⟩
  ·rw [a2W];omega
  ·exact⟨(λh=>by cases h),λh=>absurd h.1 (by omega)⟩
 ·simp only [aE,A7,D4,A4,B8,a2W,a2U,a2T];refine⟨λ_=>?_,λh=>absurd h (by omega)⟩;rw [List.drop_of_length_le (by omega),rdF] at hr;rw [<-hr];rfl
def toF (f:Fld):A6:=(f.num,f.kind,((f.val:Nat):Int),f.byt)
theorem vr (b:List UInt8):jl b=N8 b:=by kernel_rfl
theorem IM (b:List UInt8) (hb:b.length<=1000000000000):jl b=some ((((rd b).1:Nat):Int),(((rd b).2.1:Nat):Int),(((rd b).2.2:Nat):Int)):=(vr b).trans (VV b hb)
theorem IN (op:BinOp) (a b:Int):0<=bits op .u64 a b/\bits op .u64 a b < 18446744073709551616:=by
 unfold bits;rw [IntKind.wrap_u64];omega
theorem ZS {n:Int} (h0:0<=n) (h1:n < 18446744073709551616):bits .and .u64 n 7=n % 8:=by
 obtain⟨m,rfl⟩:∃ m:Nat,n=m:=⟨n.toNat,by omega⟩;have hm:m < 2 ^ 64:=by omega
 unfold bits;rw [IntKind.wrap_u64];have e:(BitVec.ofInt IntKind.u64.bits (m:Int) &&& BitVec.ofInt IntKind.u64.bits 7).toNat=m % 8:=by
  have e1:(BitVec.ofInt IntKind.u64.bits (m:Int)).toNat=m:=by
   rw [a5s];show((m:Int) % ((2 ^ 64:Nat):Int)).toNat=m;omega
  have e2:(BitVec.ofInt IntKind.u64.bits 7).toNat=7:=by rfl
  rw [a5c,e1,e2];exact a4m m 3
 simp only [e];omega
theorem RY (b:List UInt8) (hb:b.length<=1000000000000):mh b=some (toF (jY b).1,(((jY b).2.1:Nat):Int),(((jY b).2.2:Nat):Int)):=by
 rw [<-J3];have l1:=KH b;have l2:=KH (b.drop (rd b).2.1);rw [a3a] at l2;have hr2:=IM (b.drop (rd b).2.1) (by rw [a3a];omega);have e1:=IM b hb;unfold jY;generalize hq:rd b=q at *
 obtain⟨t,z,e⟩:=q;simp only at l1 l2 hr2 e1 ⊢;generalize hq2:rd (b.drop z)=q2 at *
 obtain⟨t2,z2,e2⟩:=q2;simp only at l2 hr2 ⊢;unfold U64 at l1 l2;have e7:A9 (bits .and .u64 ((t:Nat):Int) 7)=((t % 8:Nat):Int):=by rw [ZS (by omega) (by omega),C8] <;> omega
 have e8:((t:Nat):Int) / 2 ^ 3=((t / 8:Nat):Int):=by omega
 have ez:A9 (((z:Nat):Int) + ((z2:Nat):Int))=((z + z2:Nat):Int):=by rw [C8] <;> omega
 have ew:A9 (((t / 8:Nat):Nat):Int)=((t / 8:Nat):Int):=by rw [C8] <;> omega
 have el:D7 (((b.length - (z + z2):Nat):Nat):Int)=((b.length - (z + z2):Nat):Int):=by rw [J4] <;> omega
 have c1:¬ (t / 8 < 1\/536870911 < t / 8\/(t % 8 ≠ 0/\t % 8 ≠ 2))->e=0->Ok (eQ b ((z:Nat):Int) ((t % 8:Nat):Int) ((t / 8:Nat):Int) ((0:Int),(0:Int),(0:Int),[])) (· =(toF (if e2 ≠ 0 then(Fld.zero,0,e2) else if t % 8=0 then(⟨(t / 8:Nat),0,t2,[]⟩,z + z2,0) else if b.length - z - z2 < t2 then(Fld.zero,0,5) else(⟨(t / 8:Nat),2,0,(b.drop (z + z2)).take t2⟩,z + z2 + t2,0)).1,
   (((if e2 ≠ 0 then(Fld.zero,0,e2) else if t % 8=0 then(⟨(t / 8:Nat),0,t2,[]⟩,z + z2,0) else if b.length - z - z2 < t2 then(Fld.zero,0,5) else(⟨(t / 8:Nat),2,0,(b.drop (z + z2)).take t2⟩,z + z2 + t2,0):Fld × Nat × Nat).2.1:Nat):Int),
   (((if e2 ≠ 0 then(Fld.zero,0,e2) else if t % 8=0 then(⟨(t / 8:Nat),0,t2,[]⟩,z + z2,0) else if b.length - z - z2 < t2 then(Fld.zero,0,5) else(⟨(t / 8:Nat),2,0,(b.drop (z + z2)).take t2⟩,z + z2 + t2,0):Fld × Nat × Nat).2.2:Nat):Int))):=by
  intro hc he;simp only [eQ,A7,D4,A5,A4,a2W,a2U,a20,a2Z,a2T,a3i,hr2,ez,ew,a3a,el];refine⟨by omega,λh=>?_,λh=>⟨λh1=>?_,λh1=>⟨by omega,λh2=>?_,λh2=>?_⟩⟩⟩
  ·rw [a28 (by omega)];rfl
  ·rw [a25 (by omega),a28 (by omega)];rw [show((t % 8:Nat):Int)=0 from h1];rfl
  ·rw [a25 (by omega),a25 (by omega),a28 (by omega)];rfl
  ·have ht2:A9 ((t2:Nat):Int)=((t2:Nat):Int):=by rw [C8] <;> omega
   have et:A9 (((z + z2:Nat):Int) + ((t2:Nat):Int))=((z + z2 + t2:Nat):Int):=by rw [C8] <;> omega
   have e82:t % 8=2:=by omega
   simp only [ht2,et,a26,a3a];rw [a25 (by omega),a25 (by omega),a25 (by omega)];refine⟨by omega,⟨by unfold LIM;omega,by unfold LEN;omega⟩,?_⟩;rw [e82];rfl
 simp only [mh,e1,e7,e8,A7,A5,A4,a2W,a2U,a20,a2Z];refine⟨λh=>?_,λh=>⟨λh1=>?_,λh1=>⟨λh2=>?_,λh2=>⟨λh3=>⟨λh4=>?_,λh4=>?_⟩,λh3=>?_⟩⟩⟩⟩
 ·rw [a28 (by omega)];rfl
 ·rw [a25 (by omega),a28 (by omega)];rfl
 ·rw [a25 (by omega),a28 (by omega)];rfl
 ·rw [a25 (by omega),a28 (by omega)];rfl
 ·rw [a25 (by omega),a25 (by omega)];exact c1 (by omega) (by omega)
 ·rw [a25 (by omega),a25 (by omega)];exact c1 (by omega) (by omega)
theorem oi (b:List UInt8) (hb:b.length<=1000000000000):gw b=some ((nr b).1.map toF,(((nr b).2.1:Nat):Int),(((nr b).2.2:Nat):Int)):=by
 rw [<-J3];unfold gw mi;refine eX (S:=List UInt8 × Int × List A6) (inv:=λv=>∃ (k a:Nat) (acc:List Fld),v=(b,((a:Nat):Int),acc.map toF)/\a<=b.length/\b.length < a + k/\acc.length<=1024/\tj k (b.drop a) a acc=nr b) (m:=λv=>((b.length:Int) - v.2.1).toNat) ?_ ⟨b.length + 1,0,[],rfl,by omega,by omega,by simp,rfl⟩ (by simp;omega);rintro v ⟨k,a,acc,rfl,ha,hk,hacc,hr⟩;have hone:=RY (b.drop a) (by rw [a3a];omega);have hbd:=wz (b.drop a);rw [a3a] at hbd;cases k with
 | zero=>exact absurd hk (by omega)
 | succ k=>
  rw [tj] at hr;simp only [bC,nn,A7,D4,A5,A4,C9,B5,B8,a2W,a2U,a20,a2Z,a2T,a3i,a3d,hone];refine⟨λh=>⟨λh1=>?_,λh1=>⟨by omega,λh2=>?_,λh2=>⟨⟨by unfold LIM;omega,by unfold LEN;omega⟩,?_⟩⟩⟩,λh=>?_⟩
  ·rw [a25 (by rw [a3a];omega),a28 (by omega)] at hr;rw [<-hr];rfl
  ·rw [a25 (by rw [a3a];omega),a25 (by omega),a28 (by omega)] at hr;rw [<-hr];rfl
  ·rw [a25 (by rw [a3a];omega),a25 (by omega),a25 (by omega),a3R] at hr;have hz:=hbd.2.1 (by omega);have ew:A9 (((a:Nat):Int) + (((jY (b.drop a)).2.1:Nat):Int))=((a + (jY (b.drop a)).2.1:Nat):Int):=by rw [C8] <;> omega
   rw [ew];refine⟨⟨k,_,acc ++ [(jY (b.drop a)).1],by rw [a3g];rfl,by omega,by omega,by simp;omega,hr⟩,by omega⟩
  ·rw [a28 (by rw [a3a];omega)] at hr;rw [<-hr];rfl
theorem Ed (f:Fld) (h:f.ok=true):U7 (toF f)=some true/\mP (toF f)=some true:=by
 simp only [Fld.ok,a2W] at h;obtain⟨num,kind,val,byt⟩:=f;simp only at h;have d1:decide (num < 1)=false:=a2Y (by omega);have d2:decide (536870911 < num)=false:=a2Y (by omega);obtain⟨_,_,⟨rfl,hl⟩ | ⟨rfl,rfl⟩⟩:=h
 ·have hb:byt=[]:=a3e hl;subst hb;unfold U7 mP toF;simp only [d1,d2,E3];exact⟨rfl,rfl⟩
 ·unfold U7 mP toF;simp only [d1,d2,E3];exact⟨rfl,rfl⟩
theorem OB (b:List UInt8) (f:Fld) (h:f.ok=true) (hv:f.val < U64) (hb:b.length<=100000000000) (hl:f.byt.length<=100000000000):ai b (toF f)=some (b ++ f.enc,0):=by
 rw [<-J3];have ht:=Fld.tag_lt f h;have hr:=(Ed f h).1;have h':=h;simp only [Fld.ok,a2W] at h';have q1:(toF f).1=f.num:=rfl;have e1:D7 (D7 (D7 f.num * 8) + D7 f.kind)=((f.tag:Nat):Int):=by
  rw [ht.2.1,J4 (n:=f.num) (by omega) (by omega),J4 (n:=f.kind) (by omega) (by omega),J4 (n:=f.num * 8) (by omega) (by omega),J4 (by omega) (by omega)];omega
 have e2:=pR b f.tag ht.1 (by omega);have l2:=nf f.tag ht.1;have e3:=pR (b ++ enc f.tag) f.val hv (by rw [a2V];omega);have e4:D7 ((List.length f.byt:Nat):Int)=((f.byt.length:Nat):Int):=J4 (by omega) (by omega);have e5:=pR (b ++ enc f.tag) f.byt.length (by unfold U64;omega) (by rw [a2V];omega);have l5:=nf f.byt.length (by unfold U64;omega);have q3:(toF f).2.2.1=((f.val:Nat):Int):=rfl;have q4:(toF f).2.2.2=f.byt:=rfl;have q2:(toF f).2.1=f.kind:=rfl;simp only [ai,hr,e1,e2,e4,e5,q1,q2,q3,q4,e3,A7,D4,A5,A4,a2W,a2U,a20,a2Z,a2V];refine⟨λh=>(by cases h),λ_=>⟨λhk=>?_,λhk=>⟨⟨by unfold LIM;omega,by unfold LEN;omega⟩,?_⟩⟩⟩
 ·unfold Fld.enc;rw [a28 hk,a3c]
 ·unfold Fld.enc;rw [a25 hk];simp only [a3c]
theorem vW (b:List UInt8) (f:Fld) (h:f.ok=true) (hv:f.val < U64) (hb:b.length<=100000000000) (hl:f.byt.length<=100000000000):cB b (toF f)=some (b ++ f.enc,0):=by
 rw [<-J3];have ht:=Fld.tag_lt f h;have hr:=(Ed f h).2;have h':=h;simp only [Fld.ok,a2W] at h';have e1:sC (toF f)=some ((f.tag:Nat):Int):=by
  have q1:(toF f).1=f.num:=rfl;have q2:(toF f).2.1=f.kind:=rfl;unfold sC;rw [q1,q2,ht.2.1,C8 (n:=8 * f.num) (by omega) (by omega),C8 (by omega) (by omega),J4 (by omega) (by omega)]
 have e2:=pR b f.tag ht.1 (by omega);have l2:=nf f.tag ht.1;have e3:=pR (b ++ enc f.tag) f.val hv (by rw [a2V];omega);have e4:D7 ((List.length f.byt:Nat):Int)=((f.byt.length:Nat):Int):=J4 (by omega) (by omega);have e5:=pR (b ++ enc f.tag) f.byt.length (by unfold U64;omega) (by rw [a2V];omega);have l5:=nf f.byt.length (by unfold U64;omega);have q3:(toF f).2.2.1=((f.val:Nat):Int):=rfl;have q4:(toF f).2.2.2=f.byt:=rfl;have q2:(toF f).2.1=f.kind:=rfl;simp only [cB,hr,e1,Gz,e2,e4,e5,q2,q3,q4,e3,A7,D4,A5,A4,a2W,a2U,a20,a2Z,a2V];refine⟨λh=>(by cases h),λ_=>⟨λhk=>?_,λhk=>⟨⟨by unfold LIM;omega,by unfold LEN;omega⟩,?_⟩⟩⟩
 ·unfold Fld.enc;rw [a28 hk,a3c]
 ·unfold Fld.enc;rw [a25 hk];simp only [a3c]
def byt (s:List UInt8) (p:Nat):Nat:=(s.getD p 0).toNat
theorem IP (s:List UInt8) (p:Nat):byt s p < 256:=(s.getD p 0).toNat_lt
theorem VW (s:List UInt8) (p:Nat):((⟨s.toArray⟩:ByteArray).get! p).toNat=byt s p:=by
 unfold byt;congr 1;show s.toArray[p]! =_;rw [Array.getElem!_eq_getD];simp [List.getD_eq_getElem?_getD];rfl
def IQ (s:List UInt8) (p:Nat):Nat × Nat:=Lib.decodeN (s.length - p) (byt s p) (byt s (p + 1)) (byt s (p + 2)) (byt s (p + 3))
theorem uu (s:List UInt8) (p:Nat):Utf8.decode ⟨s.toArray⟩ p=IQ s p:=by
 rw [Lib.decode_at];simp only [VW];rfl
theorem RZ (s:List UInt8) (p j:Nat):byt (s.drop p) j=byt s (p + j):=by
 simp [byt,List.getD_eq_getElem?_getD,List.getElem?_drop]
theorem Co {s:List UInt8} {p:Nat} (h:p < s.length):Lib.decodeGo ⟨(s.drop p).toArray⟩=IQ s p:=by
 unfold Lib.decodeGo;have h0:¬ (⟨(s.drop p).toArray⟩:ByteArray).size=0:=by
  show ¬ (s.drop p).toArray.size=0;simp;omega
 rw [a25 h0,uu];unfold IQ;simp only [RZ,a3a,a5n,a4A,a3z]
def pc (s:List UInt8) (p:Nat):Nat:=if(IQ s p).1=65533/\(IQ s p).2=1 then 0 else(IQ s p).2
abbrev fol (n j b:Nat):Prop:=j < n/\128<=b/\b < 192
def yN (n b0 b1 b2 b3:Nat):Nat:=
 if b0 < 128 then 1
 else if(194<=b0/\b0 < 224)/\fol n 1 b1 then 2
 else if(224<=b0/\b0 < 240)/\fol n 1 b1/\fol n 2 b2 then(if(b0=224/\b1 < 160)\/(b0=237/\160<=b1) then 0 else 3)
 else if(240<=b0/\b0 < 245)/\fol n 1 b1/\fol n 2 b2/\fol n 3 b3 then(if(b0=240/\b1 < 144)\/(b0=244/\144<=b1) then 0 else 4)
 else 0
set_option maxHeartbeats 4000000 in
theorem Sa (n b0 b1 b2 b3:Nat) (h0:b0 < 256) (h1:b1 < 256) (h2:b2 < 256) (h3:b3 < 256) :
  yN n b0 b1 b2 b3=if(Lib.decodeN n b0 b1 b2 b3).1=65533/\(Lib.decodeN n b0 b1 b2 b3).2=1 then 0 else(Lib.decodeN n b0 b1 b2 b3).2:=by
 by_cases c1:b0 < 128
 ·simp [yN,Lib.decodeN,c1];omega
 by_cases c2:b0 < 224
 ·simp only [yN,Lib.decodeN,fol,c1,a3y,show b0 / 16 ≠ 14 by omega,show b0 / 8 ≠ 30 by omega,show ¬ 224<=b0 by omega,show ¬ 240<=b0 by omega,false_and]
  repeat' split
  all_goals omega
 by_cases c3:b0 < 240
 ·simp only [yN,Lib.decodeN,fol,c1,a3y,show b0 / 32 ≠ 6 by omega,show b0 / 8 ≠ 30 by omega,show ¬ b0 < 224 by omega,show ¬ 240<=b0 by omega,false_and,and_false]
  repeat' split
  all_goals omega
 ·simp only [yN,Lib.decodeN,fol,c1,a3y,show b0 / 32 ≠ 6 by omega,show b0 / 16 ≠ 14 by omega,show ¬ b0 < 224 by omega,show ¬ b0 < 240 by omega,false_and,and_false]
  repeat' split
  all_goals omega
theorem vX (s:List UInt8) (p:Nat):pc s p=yN (s.length - p) (byt s p) (byt s (p + 1)) (byt s (p + 2)) (byt s (p + 3)):=by
 rw [Sa _ _ _ _ _ (IP _ _) (IP _ _) (IP _ _) (IP _ _)];rfl
theorem Cp (s:List UInt8) (p:Nat):pc s p<=4:=by
 rw [vX];unfold yN
 repeat' split
 all_goals omega
end Go.Proofs.YtjbgdpjgfjnkbaaGreatDoor.Am
