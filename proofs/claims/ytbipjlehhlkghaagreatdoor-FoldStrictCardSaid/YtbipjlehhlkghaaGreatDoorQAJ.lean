/- Texts laid together: PWireT, PWireU, PMemo. No conditions. -/
import Derived.Test.YtbipjlehhlkghaaGreatDoorFAll
import Derived.Test.YtbipjlehhlkghaaGreatDoorQAE
import Derived.Test.YtbipjlehhlkghaaGreatDoorQAF
import Derived.KernelRfl
namespace Go.Proofs.YtbipjlehhlkghaaGreatDoor.Am
open Go
theorem c2X (b:List UInt8) (n:Int):U4 b n=F9 b n:=by
 unfold U4 F9
 rw [Nat.zero_add]
 rfl
theorem a9T (b:List UInt8) (n:Nat) (hn:n < U64) (hb:b.length<=1000000000000):F9 b ((n:Nat):Int)=some (b ++ enc n):=by
 rw [<-L4]
 have h10:=a6U n hn
 unfold F9 V6
 rw [E5]
 refine⟨decide_eq_true (by unfold LIM LEN;omega),?_⟩
 refine b0m (S:=Int × List UInt8) (inv:=fun v=>∃ m:Nat,v.1=((m:Nat):Int)/\m < U64/\v.2 ++ enc m=b ++ enc n) (m:=fun v=>v.1.toNat) ?_ ⟨n,rfl,hn,rfl⟩ (by unfold U64 at hn;simp only [Int.toNat_natCast];omega)
 rintro⟨v,l⟩ ⟨m,rfl,hm,he⟩
 simp only at he
 have hl:l.length + (enc m).length=b.length + (enc n).length:=by rw [<-List.length_append,he,List.length_append]
 have hw:wu8 ((m:Nat):Int)=((m:Nat):Int) % 256:=by rw [wu8,IntKind.wrap_u8]
 have hx:=c4i (UInt8.ofNat (m % 128 + 128))
 unfold U64 at hm
 simp only [P8,a0b,hw,d7f,C0,E5,A3,D5,B4,B8,decide_eq_true_eq,decide_eq_false_iff_not,Int.toNat_natCast]
 refine⟨fun h=>⟨hx,⟨by unfold LIM;omega,by unfold LEN;omega⟩,?_⟩,fun h=>⟨⟨by omega,by omega⟩,⟨by unfold LIM;omega,by unfold LEN;omega⟩,?_⟩⟩
 ·have e7:((m:Nat):Int) / 2 ^ 7=((m / 128:Nat):Int):=by omega
  rw [e7,UInt8.ofNat_toNat]
  rw [c1f m (by omega)] at he
  refine⟨⟨m / 128,rfl,by unfold U64;omega,by rw [<-he,List.append_assoc,List.singleton_append]⟩,by simp only [Int.toNat_natCast];omega⟩
 ·have e8:UInt8.ofNat (Int.toNat (((m:Nat):Int) % 256))=UInt8.ofNat m:=by
   congr 1;omega
  rw [e8,<-he,c1g m (by omega)]
theorem d3s (b:List UInt8) (hb:b.length<=1000000000000):L2 b=some ((((rd b).1:Nat):Int),(((rd b).2.1:Nat):Int),(((rd b).2.2:Nat):Int)):=by
 rw [<-L4]
 unfold L2 a20
 refine b0m (S:=List UInt8 × Int × Int) (inv:=fun v=>∃ n i:Nat,v=(b,((n:Nat):Int),((i:Nat):Int))/\i<=9/\i<=b.length/\n < 128 ^ i/\rdF i n (b.drop i)=rd b) (m:=fun v=>(10 - v.2.2).toNat) ?_ ⟨0,0,rfl,by omega,by omega,by simp,rfl⟩ (by simp)
 rintro v ⟨n,i,rfl,hi,hib,hn,hr⟩
 have hw:A5 (7 * ((i:Nat):Int))=((7 * i:Nat):Int):=by rw [E0] <;> omega
 have hmin:min (7 * i) 64=7 * i:=by omega
 by_cases hlt:i < b.length
 ·have hd:=List.drop_eq_getElem_cons hlt
  rw [hd] at hr
  have hx:=(b[i]).toNat_lt
  have hc2:∀ (h9:i=9->(b[i]).toNat<=1),¬ (i=9/\1 < (b[i]).toNat)->¬ (0 < i/\(b[i]).toNat=0)->Ok (M1 b ((n:Nat):Int) ((i:Nat):Int)) (Nxt (fun r=>r=((((rd b).1:Nat):Int),(((rd b).2.1:Nat):Int),(((rd b).2.2:Nat):Int))) fun z=>(∃ n i:Nat,z=(b,((n:Nat):Int),((i:Nat):Int))/\i<=9/\i<=b.length/\n < 128 ^ i/\rdF i n (b.drop i)=rd b)/\(10 - z.2.2).toNat < (10 - ((i:Nat):Int)).toNat):=by
   intro h9 c1 c2
   have ho:=d3r n (b[i]).toNat i hn hi (by omega) h9
   have ho':bits .or .u64 ((n:Nat):Int) (B1 (B1 (bits .and .u8 ((UInt8.toNat b[i]:Nat):Int) 127) * 2 ^ (7 * i)))=((n + (b[i]).toNat % 128 * 128 ^ i:Nat):Int):=ho
   rw [rdF,if_neg c1,if_neg c2] at hr
   simp only [M1,hw,hmin,C0,E5,A3,B4,B8,decide_eq_true_eq,decide_eq_false_iff_not,Int.toNat_natCast,D8 hlt,ho',E2 (i:=i) (by omega)]
   refine⟨⟨by omega,by omega⟩,by omega,⟨by omega,by omega⟩,fun h=>?_,fun h=>?_⟩
   ·rw [if_pos (by omega)] at hr
    rw [<-hr]
    rfl
   ·rw [if_neg (by omega)] at hr
    have hi9:i ≠ 9:=fun e=>by have:=h9 e;omega
    have h2:(b[i]).toNat % 128 * 128 ^ i<=127 * 128 ^ i:=Nat.mul_le_mul_right _ (by omega)
    refine⟨⟨_,i + 1,rfl,by omega,by omega,by rw [Nat.pow_succ];omega,hr⟩,by omega⟩
  have hc3:∀ c:Bool,(c=true ↔ (i=9/\1 < (b[i]).toNat))->Ok (M2 b ((n:Nat):Int) ((i:Nat):Int) c) (Nxt (fun r=>r=((((rd b).1:Nat):Int),(((rd b).2.1:Nat):Int),(((rd b).2.2:Nat):Int))) fun z=>(∃ n i:Nat,z=(b,((n:Nat):Int),((i:Nat):Int))/\i<=9/\i<=b.length/\n < 128 ^ i/\rdF i n (b.drop i)=rd b)/\(10 - z.2.2).toNat < (10 - ((i:Nat):Int)).toNat):=by
   intro c hc
   simp only [M2,C0,E5,A3,B8,decide_eq_true_eq,decide_eq_false_iff_not,Int.toNat_natCast,D8 hlt]
   refine⟨fun h=>?_,fun h=>⟨fun h0=>⟨⟨by omega,by omega⟩,fun h1=>?_,fun h1=>?_⟩,fun h0=>?_⟩⟩
   ·rw [rdF,if_pos (hc.1 h)] at hr
    rw [<-hr];rfl
   ·rw [rdF,if_neg (fun q=>by rw [hc.2 q] at h;cases h),if_pos ⟨by omega,by omega⟩] at hr
    rw [<-hr];rfl
   ·have q:¬ (i=9/\1 < (b[i]).toNat):=fun q=>by rw [hc.2 q] at h;cases h
    exact hc2 (fun e=>by omega) q (fun q2=>h1 (by omega))
   ·have q:¬ (i=9/\1 < (b[i]).toNat):=fun q=>by rw [hc.2 q] at h;cases h
    exact hc2 (fun e=>by omega) q (fun q2=>h0 (by omega))
  simp only [U6,C0,E5,A3,B8,decide_eq_true_eq,decide_eq_false_iff_not,Int.toNat_natCast,D8 hlt]
  refine⟨fun h=>absurd h (by omega),fun _=>⟨fun h9=>⟨⟨by omega,by omega⟩,hc3 _ ?_⟩,fun h9=>hc3 _ ?_⟩⟩
  ·rw [decide_eq_true_eq];omega
  ·exact⟨(fun h=>by cases h),fun h=>absurd h.1 (by omega)⟩
 ·simp only [U6,C0,E5,A3,B8,decide_eq_true_eq,decide_eq_false_iff_not,Int.toNat_natCast]
  refine⟨fun _=>?_,fun h=>absurd h (by omega)⟩
  rw [List.drop_of_length_le (by omega),rdF] at hr
  rw [<-hr];rfl
end Go.Proofs.YtbipjlehhlkghaaGreatDoor.Am
namespace Go.Proofs.YtbipjlehhlkghaaGreatDoor.Am
open Go
def toF (f:Fld):A1:=(f.num,f.kind,((f.val:Nat):Int),f.byt)
theorem b4r (b:List UInt8):a3R b=L2 b:=by kernel_rfl
theorem c4r (b:List UInt8) (hb:b.length<=1000000000000):a3R b=some ((((rd b).1:Nat):Int),(((rd b).2.1:Nat):Int),(((rd b).2.2:Nat):Int)):=(b4r b).trans (d3s b hb)
theorem c4s (op:BinOp) (a b:Int):0<=bits op .u64 a b/\bits op .u64 a b < 18446744073709551616:=by
 unfold bits
 rw [IntKind.wrap_u64]
 omega
theorem d6a {n:Int} (h0:0<=n) (h1:n < 18446744073709551616):bits .and .u64 n 7=n % 8:=by
 obtain⟨m,rfl⟩:∃ m:Nat,n=m:=⟨n.toNat,by omega⟩
 have hm:m < 2 ^ 64:=by omega
 unfold bits
 rw [IntKind.wrap_u64]
 have e:(BitVec.ofInt IntKind.u64.bits (m:Int) &&& BitVec.ofInt IntKind.u64.bits 7).toNat=m % 8:=by
  have e1:(BitVec.ofInt IntKind.u64.bits (m:Int)).toNat=m:=by
   rw [BitVec.toNat_ofInt]
   show((m:Int) % ((2 ^ 64:Nat):Int)).toNat=m
   omega
  have e2:(BitVec.ofInt IntKind.u64.bits 7).toNat=7:=by rfl
  rw [BitVec.toNat_and,e1,e2]
  exact Nat.and_two_pow_sub_one_eq_mod m 3
 simp only [e]
 omega
theorem d0J (b:List UInt8) (hb:b.length<=1000000000000):a6d b=some (toF (a4z b).1,(((a4z b).2.1:Nat):Int),(((a4z b).2.2:Nat):Int)):=by
 rw [<-L4]
 have l1:=c5L b
 have l2:=c5L (b.drop (rd b).2.1)
 rw [List.length_drop] at l2
 have hr2:=c4r (b.drop (rd b).2.1) (by rw [List.length_drop];omega)
 have e1:=c4r b hb
 unfold a4z
 generalize hq:rd b=q at *
 obtain⟨t,z,e⟩:=q
 simp only at l1 l2 hr2 e1 ⊢
 generalize hq2:rd (b.drop z)=q2 at *
 obtain⟨t2,z2,e2⟩:=q2
 simp only at l2 hr2 ⊢
 unfold U64 at l1 l2
 have e7:A5 (bits .and .u64 ((t:Nat):Int) 7)=((t % 8:Nat):Int):=by rw [d6a (by omega) (by omega),E0] <;> omega
 have e8:((t:Nat):Int) / 2 ^ 3=((t / 8:Nat):Int):=by omega
 have ez:A5 (((z:Nat):Int) + ((z2:Nat):Int))=((z + z2:Nat):Int):=by rw [E0] <;> omega
 have ew:A5 (((t / 8:Nat):Nat):Int)=((t / 8:Nat):Int):=by rw [E0] <;> omega
 have el:B1 (((b.length - (z + z2):Nat):Nat):Int)=((b.length - (z + z2):Nat):Int):=by rw [K9] <;> omega
 have c1:¬ (t / 8 < 1\/536870911 < t / 8\/(t % 8 ≠ 0/\t % 8 ≠ 2))->e=0->Ok (a1v b ((z:Nat):Int) ((t % 8:Nat):Int) ((t / 8:Nat):Int) ((0:Int),(0:Int),(0:Int),[])) (· =(toF (if e2 ≠ 0 then(Fld.zero,0,e2) else if t % 8=0 then(⟨(t / 8:Nat),0,t2,[]⟩,z + z2,0) else if b.length - z - z2 < t2 then(Fld.zero,0,5) else(⟨(t / 8:Nat),2,0,(b.drop (z + z2)).take t2⟩,z + z2 + t2,0)).1,
   (((if e2 ≠ 0 then(Fld.zero,0,e2) else if t % 8=0 then(⟨(t / 8:Nat),0,t2,[]⟩,z + z2,0) else if b.length - z - z2 < t2 then(Fld.zero,0,5) else(⟨(t / 8:Nat),2,0,(b.drop (z + z2)).take t2⟩,z + z2 + t2,0):Fld × Nat × Nat).2.1:Nat):Int),
   (((if e2 ≠ 0 then(Fld.zero,0,e2) else if t % 8=0 then(⟨(t / 8:Nat),0,t2,[]⟩,z + z2,0) else if b.length - z - z2 < t2 then(Fld.zero,0,5) else(⟨(t / 8:Nat),2,0,(b.drop (z + z2)).take t2⟩,z + z2 + t2,0):Fld × Nat × Nat).2.2:Nat):Int))):=by
  intro hc he
  simp only [a1v,C0,E5,B6,A3,decide_eq_true_eq,decide_eq_false_iff_not,Bool.not_eq_true',Bool.not_eq_false',Int.toNat_natCast,List.take_length,hr2,ez,ew,List.length_drop,el]
  refine⟨by omega,fun h=>?_,fun h=>⟨fun h1=>?_,fun h1=>⟨by omega,fun h2=>?_,fun h2=>?_⟩⟩⟩
  ·rw [if_pos (by omega)];rfl
  ·rw [if_neg (by omega),if_pos (by omega)]
   rw [show((t % 8:Nat):Int)=0 from h1];rfl
  ·rw [if_neg (by omega),if_neg (by omega),if_pos (by omega)];rfl
  ·have ht2:A5 ((t2:Nat):Int)=((t2:Nat):Int):=by rw [E0] <;> omega
   have et:A5 (((z + z2:Nat):Int) + ((t2:Nat):Int))=((z + z2 + t2:Nat):Int):=by rw [E0] <;> omega
   have e82:t % 8=2:=by omega
   simp only [ht2,et,List.length_take,List.length_drop]
   rw [if_neg (by omega),if_neg (by omega),if_neg (by omega)]
   refine⟨by omega,⟨by unfold LIM;omega,by unfold LEN;omega⟩,?_⟩
   rw [e82];rfl
 simp only [a6d,e1,e7,e8,C0,B6,A3,decide_eq_true_eq,decide_eq_false_iff_not,Bool.not_eq_true',Bool.not_eq_false']
 refine⟨fun h=>?_,fun h=>⟨fun h1=>?_,fun h1=>⟨fun h2=>?_,fun h2=>⟨fun h3=>⟨fun h4=>?_,fun h4=>?_⟩,fun h3=>?_⟩⟩⟩⟩
 ·rw [if_pos (by omega)];rfl
 ·rw [if_neg (by omega),if_pos (by omega)];rfl
 ·rw [if_neg (by omega),if_pos (by omega)];rfl
 ·rw [if_neg (by omega),if_pos (by omega)];rfl
 ·rw [if_neg (by omega),if_neg (by omega)];exact c1 (by omega) (by omega)
 ·rw [if_neg (by omega),if_neg (by omega)];exact c1 (by omega) (by omega)
theorem b0o (b:List UInt8) (hb:b.length<=1000000000000):a2p b=some ((a8X b).1.map toF,(((a8X b).2.1:Nat):Int),(((a8X b).2.2:Nat):Int)):=by
 rw [<-L4]
 unfold a2p a6e
 refine b0m (S:=List UInt8 × Int × List A1) (inv:=fun v=>∃ (k a:Nat) (acc:List Fld),v=(b,((a:Nat):Int),acc.map toF)/\a<=b.length/\b.length < a + k/\acc.length<=1024/\b2l k (b.drop a) a acc=a8X b) (m:=fun v=>((b.length:Int) - v.2.1).toNat) ?_ ⟨b.length + 1,0,[],rfl,by omega,by omega,by simp,rfl⟩ (by simp;omega)
 rintro v ⟨k,a,acc,rfl,ha,hk,hacc,hr⟩
 have hone:=d0J (b.drop a) (by rw [List.length_drop];omega)
 have hbd:=b5C (b.drop a)
 rw [List.length_drop] at hbd
 cases k with
 | zero=>exact absurd hk (by omega)
 | succ k=>
  rw [b2l] at hr
  simp only [X4,a65,C0,E5,B6,A3,D5,B4,B8,decide_eq_true_eq,decide_eq_false_iff_not,Bool.not_eq_true',Bool.not_eq_false',Int.toNat_natCast,List.take_length,List.length_map,hone]
  refine⟨fun h=>⟨fun h1=>?_,fun h1=>⟨by omega,fun h2=>?_,fun h2=>⟨⟨by unfold LIM;omega,by unfold LEN;omega⟩,?_⟩⟩⟩,fun h=>?_⟩
  ·rw [if_neg (by rw [List.length_drop];omega),if_pos (by omega)] at hr
   rw [<-hr];rfl
  ·rw [if_neg (by rw [List.length_drop];omega),if_neg (by omega),if_pos (by omega)] at hr
   rw [<-hr];rfl
  ·rw [if_neg (by rw [List.length_drop];omega),if_neg (by omega),if_neg (by omega),List.drop_drop] at hr
   have hz:=hbd.2.1 (by omega)
   have ew:A5 (((a:Nat):Int) + (((a4z (b.drop a)).2.1:Nat):Int))=((a + (a4z (b.drop a)).2.1:Nat):Int):=by rw [E0] <;> omega
   rw [ew]
   refine⟨⟨k,_,acc ++ [(a4z (b.drop a)).1],by rw [List.map_append];rfl,by omega,by omega,by simp;omega,hr⟩,by omega⟩
  ·rw [if_pos (by rw [List.length_drop];omega)] at hr
   rw [<-hr];rfl
theorem c1l (f:Fld) (h:f.ok=true):L9 (toF f)=some true/\a5b (toF f)=some true:=by
 simp only [Fld.ok,decide_eq_true_eq] at h
 obtain⟨num,kind,val,byt⟩:=f
 simp only at h
 have d1:decide (num < 1)=false:=decide_eq_false (by omega)
 have d2:decide (536870911 < num)=false:=decide_eq_false (by omega)
 obtain⟨_,_,⟨rfl,hl⟩ | ⟨rfl,rfl⟩⟩:=h
 ·have hb:byt=[]:=List.eq_nil_of_length_eq_zero hl
  subst hb
  unfold L9 a5b toF
  simp only [d1,d2,C6]
  exact⟨rfl,rfl⟩
 ·unfold L9 a5b toF
  simp only [d1,d2,C6]
  exact⟨rfl,rfl⟩
theorem c8t (b:List UInt8) (f:Fld) (h:f.ok=true) (hv:f.val < U64) (hb:b.length<=100000000000) (hl:f.byt.length<=100000000000):J2 b (toF f)=some (b ++ f.enc,0):=by
 rw [<-L4]
 have ht:=Fld.tag_lt f h
 have hr:=(c1l f h).1
 have h':=h
 simp only [Fld.ok,decide_eq_true_eq] at h'
 have q1:(toF f).1=f.num:=rfl
 have e1:B1 (B1 (B1 f.num * 8) + B1 f.kind)=((f.tag:Nat):Int):=by
  rw [ht.2.1,K9 (n:=f.num) (by omega) (by omega),K9 (n:=f.kind) (by omega) (by omega),K9 (n:=f.num * 8) (by omega) (by omega),K9 (by omega) (by omega)]
  omega
 have e2:=a9T b f.tag ht.1 (by omega)
 have l2:=a6U f.tag ht.1
 have e3:=a9T (b ++ enc f.tag) f.val hv (by rw [List.length_append];omega)
 have e4:B1 ((List.length f.byt:Nat):Int)=((f.byt.length:Nat):Int):=K9 (by omega) (by omega)
 have e5:=a9T (b ++ enc f.tag) f.byt.length (by unfold U64;omega) (by rw [List.length_append];omega)
 have l5:=a6U f.byt.length (by unfold U64;omega)
 have q3:(toF f).2.2.1=((f.val:Nat):Int):=rfl
 have q4:(toF f).2.2.2=f.byt:=rfl
 have q2:(toF f).2.1=f.kind:=rfl
 simp only [J2,hr,e1,e2,e4,e5,q1,q2,q3,q4,e3,C0,E5,B6,A3,decide_eq_true_eq,decide_eq_false_iff_not,Bool.not_eq_true',Bool.not_eq_false',List.length_append]
 refine⟨fun h=>(by cases h),fun _=>⟨fun hk=>?_,fun hk=>⟨⟨by unfold LIM;omega,by unfold LEN;omega⟩,?_⟩⟩⟩
 ·unfold Fld.enc;rw [if_pos hk,List.append_assoc]
 ·unfold Fld.enc;rw [if_neg hk];simp only [List.append_assoc]
theorem b4Y (b:List UInt8) (f:Fld) (h:f.ok=true) (hv:f.val < U64) (hb:b.length<=100000000000) (hl:f.byt.length<=100000000000):K0 b (toF f)=some (b ++ f.enc,0):=by
 rw [<-L4]
 have ht:=Fld.tag_lt f h
 have hr:=(c1l f h).2
 have h':=h
 simp only [Fld.ok,decide_eq_true_eq] at h'
 have e1:a9w (toF f)=some ((f.tag:Nat):Int):=by
  have q1:(toF f).1=f.num:=rfl
  have q2:(toF f).2.1=f.kind:=rfl
  unfold a9w
  rw [q1,q2,ht.2.1,E0 (n:=8 * f.num) (by omega) (by omega),E0 (by omega) (by omega),K9 (by omega) (by omega)]
 have e2:=a9T b f.tag ht.1 (by omega)
 have l2:=a6U f.tag ht.1
 have e3:=a9T (b ++ enc f.tag) f.val hv (by rw [List.length_append];omega)
 have e4:B1 ((List.length f.byt:Nat):Int)=((f.byt.length:Nat):Int):=K9 (by omega) (by omega)
 have e5:=a9T (b ++ enc f.tag) f.byt.length (by unfold U64;omega) (by rw [List.length_append];omega)
 have l5:=a6U f.byt.length (by unfold U64;omega)
 have q3:(toF f).2.2.1=((f.val:Nat):Int):=rfl
 have q4:(toF f).2.2.2=f.byt:=rfl
 have q2:(toF f).2.1=f.kind:=rfl
 simp only [K0,hr,e1,c2X,e2,e4,e5,q2,q3,q4,e3,C0,E5,B6,A3,decide_eq_true_eq,decide_eq_false_iff_not,Bool.not_eq_true',Bool.not_eq_false',List.length_append]
 refine⟨fun h=>(by cases h),fun _=>⟨fun hk=>?_,fun hk=>⟨⟨by unfold LIM;omega,by unfold LEN;omega⟩,?_⟩⟩⟩
 ·unfold Fld.enc;rw [if_pos hk,List.append_assoc]
 ·unfold Fld.enc;rw [if_neg hk];simp only [List.append_assoc]
end Go.Proofs.YtbipjlehhlkghaaGreatDoor.Am
namespace Go.Proofs.YtbipjlehhlkghaaGreatDoor.Am
open Go
def byt (s:List UInt8) (p:Nat):Nat:=(s.getD p 0).toNat
theorem c4t (s:List UInt8) (p:Nat):byt s p < 256:=(s.getD p 0).toNat_lt
theorem d3t (s:List UInt8) (p:Nat):((⟨s.toArray⟩:ByteArray).get! p).toNat=byt s p:=by
 unfold byt
 congr 1
 show s.toArray[p]! =_
 rw [Array.getElem!_eq_getD]
 simp [List.getD_eq_getElem?_getD]
 rfl
def c4u (s:List UInt8) (p:Nat):Nat × Nat:=Lib.decodeN (s.length - p) (byt s p) (byt s (p + 1)) (byt s (p + 2)) (byt s (p + 3))
theorem b3s (s:List UInt8) (p:Nat):Utf8.decode ⟨s.toArray⟩ p=c4u s p:=by
 rw [Lib.decode_at]
 simp only [d3t]
 rfl
theorem d0K (s:List UInt8) (p j:Nat):byt (s.drop p) j=byt s (p + j):=by
 simp [byt,List.getD_eq_getElem?_getD,List.getElem?_drop]
theorem b9M {s:List UInt8} {p:Nat} (h:p < s.length):Lib.decodeGo ⟨(s.drop p).toArray⟩=c4u s p:=by
 unfold Lib.decodeGo
 have h0:¬ (⟨(s.drop p).toArray⟩:ByteArray).size=0:=by
  show ¬ (s.drop p).toArray.size=0
  simp;omega
 rw [if_neg h0,b3s]
 unfold c4u
 simp only [d0K,List.length_drop,Nat.sub_zero,Nat.add_zero,Nat.zero_add]
def a9a (s:List UInt8) (p:Nat):Nat:=if(c4u s p).1=65533/\(c4u s p).2=1 then 0 else(c4u s p).2
abbrev fol (n j b:Nat):Prop:=j < n/\128<=b/\b < 192
def b7i (n b0 b1 b2 b3:Nat):Nat:=
 if b0 < 128 then 1
 else if(194<=b0/\b0 < 224)/\fol n 1 b1 then 2
 else if(224<=b0/\b0 < 240)/\fol n 1 b1/\fol n 2 b2 then(if(b0=224/\b1 < 160)\/(b0=237/\160<=b1) then 0 else 3)
 else if(240<=b0/\b0 < 245)/\fol n 1 b1/\fol n 2 b2/\fol n 3 b3 then(if(b0=240/\b1 < 144)\/(b0=244/\144<=b1) then 0 else 4)
 else 0
set_option maxHeartbeats 4000000 in
theorem d0L (n b0 b1 b2 b3:Nat) (h0:b0 < 256) (h1:b1 < 256) (h2:b2 < 256) (h3:b3 < 256) :
  b7i n b0 b1 b2 b3=if(Lib.decodeN n b0 b1 b2 b3).1=65533/\(Lib.decodeN n b0 b1 b2 b3).2=1 then 0 else(Lib.decodeN n b0 b1 b2 b3).2:=by
 by_cases c1:b0 < 128
 ·simp [b7i,Lib.decodeN,c1]
  omega
 by_cases c2:b0 < 224
 ·simp only [b7i,Lib.decodeN,fol,c1,if_false,show b0 / 16 ≠ 14 by omega,show b0 / 8 ≠ 30 by omega,show ¬ 224<=b0 by omega,show ¬ 240<=b0 by omega,false_and]
  repeat' split
  all_goals omega
 by_cases c3:b0 < 240
 ·simp only [b7i,Lib.decodeN,fol,c1,if_false,show b0 / 32 ≠ 6 by omega,show b0 / 8 ≠ 30 by omega,show ¬ b0 < 224 by omega,show ¬ 240<=b0 by omega,false_and,and_false]
  repeat' split
  all_goals omega
 ·simp only [b7i,Lib.decodeN,fol,c1,if_false,show b0 / 32 ≠ 6 by omega,show b0 / 16 ≠ 14 by omega,show ¬ b0 < 224 by omega,show ¬ b0 < 240 by omega,false_and,and_false]
  repeat' split
  all_goals omega
theorem b4Z (s:List UInt8) (p:Nat):a9a s p=b7i (s.length - p) (byt s p) (byt s (p + 1)) (byt s (p + 2)) (byt s (p + 3)):=by
 rw [d0L _ _ _ _ _ (c4t _ _) (c4t _ _) (c4t _ _) (c4t _ _)]
 rfl
theorem b9N (s:List UInt8) (p:Nat):a9a s p<=4:=by
 rw [b4Z]
 unfold b7i
 repeat' split
 all_goals omega
end Go.Proofs.YtbipjlehhlkghaaGreatDoor.Am
