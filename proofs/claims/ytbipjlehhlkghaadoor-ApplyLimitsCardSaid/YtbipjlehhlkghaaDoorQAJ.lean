/- Texts laid together: PWireT, PWireU, PMemo. No conditions. -/
import Derived.Test.YtbipjlehhlkghaaDoorFAll
import Derived.Test.YtbipjlehhlkghaaDoorQAE
import Derived.Test.YtbipjlehhlkghaaDoorQAF
import Derived.KernelRfl
namespace Go.Proofs.YtbipjlehhlkghaaDoor.Am
open Go
theorem b4I (b:List UInt8) (n:Int):T5 b n=E2 b n:=by
 unfold T5 E2
 rw [Nat.zero_add]
 rfl
theorem a3J (b:List UInt8) (n:Nat) (hn:n < U64) (hb:b.length<=1000000000000):E2 b ((n:Nat):Int)=some (b ++ enc n):=by
 rw [<-M9]
 have h10:=a1E n hn
 unfold E2 a0F
 rw [C6]
 refine⟨decide_eq_true (by unfold LIM LEN;omega),?_⟩
 refine a6d (S:=Int × List UInt8) (inv:=fun v=>∃ m:Nat,v.1=((m:Nat):Int)/\m < U64/\v.2 ++ enc m=b ++ enc n) (m:=fun v=>v.1.toNat) ?_ ⟨n,rfl,hn,rfl⟩ (by unfold U64 at hn;simp only [Int.toNat_natCast];omega)
 rintro⟨v,l⟩ ⟨m,rfl,hm,he⟩
 simp only at he
 have hl:l.length + (enc m).length=b.length + (enc n).length:=by rw [<-List.length_append,he,List.length_append]
 have hw:wu8 ((m:Nat):Int)=((m:Nat):Int) % 256:=by rw [wu8,IntKind.wrap_u8]
 have hx:=b5R (UInt8.ofNat (m % 128 + 128))
 unfold U64 at hm
 simp only [U6,U5,hw,c6r,B7,C6,A0,C1,A8,A6,decide_eq_true_eq,decide_eq_false_iff_not,Int.toNat_natCast]
 refine⟨fun h=>⟨hx,⟨by unfold LIM;omega,by unfold LEN;omega⟩,?_⟩,fun h=>⟨⟨by omega,by omega⟩,⟨by unfold LIM;omega,by unfold LEN;omega⟩,?_⟩⟩
 ·have e7:((m:Nat):Int) / 2 ^ 7=((m / 128:Nat):Int):=by omega
  rw [e7,UInt8.ofNat_toNat]
  rw [b3b m (by omega)] at he
  refine⟨⟨m / 128,rfl,by unfold U64;omega,by rw [<-he,List.append_assoc,List.singleton_append]⟩,by simp only [Int.toNat_natCast];omega⟩
 ·have e8:UInt8.ofNat (Int.toNat (((m:Nat):Int) % 256))=UInt8.ofNat m:=by
   congr 1;omega
  rw [e8,<-he,b3c m (by omega)]
theorem c3B (b:List UInt8) (hb:b.length<=1000000000000):E4 b=some ((((rd b).1:Nat):Int),(((rd b).2.1:Nat):Int),(((rd b).2.2:Nat):Int)):=by
 rw [<-M9]
 unfold E4 W8
 refine a6d (S:=List UInt8 × Int × Int) (inv:=fun v=>∃ n i:Nat,v=(b,((n:Nat):Int),((i:Nat):Int))/\i<=9/\i<=b.length/\n < 128 ^ i/\rdF i n (b.drop i)=rd b) (m:=fun v=>(10 - v.2.2).toNat) ?_ ⟨0,0,rfl,by omega,by omega,by simp,rfl⟩ (by simp)
 rintro v ⟨n,i,rfl,hi,hib,hn,hr⟩
 have hw:B0 (7 * ((i:Nat):Int))=((7 * i:Nat):Int):=by rw [D9] <;> omega
 have hmin:min (7 * i) 64=7 * i:=by omega
 by_cases hlt:i < b.length
 ·have hd:=List.drop_eq_getElem_cons hlt
  rw [hd] at hr
  have hx:=(b[i]).toNat_lt
  have hc2:∀ (h9:i=9->(b[i]).toNat<=1),¬ (i=9/\1 < (b[i]).toNat)->¬ (0 < i/\(b[i]).toNat=0)->Ok (F8 b ((n:Nat):Int) ((i:Nat):Int)) (Nxt (fun r=>r=((((rd b).1:Nat):Int),(((rd b).2.1:Nat):Int),(((rd b).2.2:Nat):Int))) fun z=>(∃ n i:Nat,z=(b,((n:Nat):Int),((i:Nat):Int))/\i<=9/\i<=b.length/\n < 128 ^ i/\rdF i n (b.drop i)=rd b)/\(10 - z.2.2).toNat < (10 - ((i:Nat):Int)).toNat):=by
   intro h9 c1 c2
   have ho:=c3A n (b[i]).toNat i hn hi (by omega) h9
   have ho':bits .or .u64 ((n:Nat):Int) (A7 (A7 (bits .and .u8 ((UInt8.toNat b[i]:Nat):Int) 127) * 2 ^ (7 * i)))=((n + (b[i]).toNat % 128 * 128 ^ i:Nat):Int):=ho
   rw [rdF,if_neg c1,if_neg c2] at hr
   simp only [F8,hw,hmin,B7,C6,A0,A8,A6,decide_eq_true_eq,decide_eq_false_iff_not,Int.toNat_natCast,E6 hlt,ho',H0 (i:=i) (by omega)]
   refine⟨⟨by omega,by omega⟩,by omega,⟨by omega,by omega⟩,fun h=>?_,fun h=>?_⟩
   ·rw [if_pos (by omega)] at hr
    rw [<-hr]
    rfl
   ·rw [if_neg (by omega)] at hr
    have hi9:i ≠ 9:=fun e=>by have:=h9 e;omega
    have h2:(b[i]).toNat % 128 * 128 ^ i<=127 * 128 ^ i:=Nat.mul_le_mul_right _ (by omega)
    refine⟨⟨_,i + 1,rfl,by omega,by omega,by rw [Nat.pow_succ];omega,hr⟩,by omega⟩
  have hc3:∀ c:Bool,(c=true ↔ (i=9/\1 < (b[i]).toNat))->Ok (F9 b ((n:Nat):Int) ((i:Nat):Int) c) (Nxt (fun r=>r=((((rd b).1:Nat):Int),(((rd b).2.1:Nat):Int),(((rd b).2.2:Nat):Int))) fun z=>(∃ n i:Nat,z=(b,((n:Nat):Int),((i:Nat):Int))/\i<=9/\i<=b.length/\n < 128 ^ i/\rdF i n (b.drop i)=rd b)/\(10 - z.2.2).toNat < (10 - ((i:Nat):Int)).toNat):=by
   intro c hc
   simp only [F9,B7,C6,A0,A6,decide_eq_true_eq,decide_eq_false_iff_not,Int.toNat_natCast,E6 hlt]
   refine⟨fun h=>?_,fun h=>⟨fun h0=>⟨⟨by omega,by omega⟩,fun h1=>?_,fun h1=>?_⟩,fun h0=>?_⟩⟩
   ·rw [rdF,if_pos (hc.1 h)] at hr
    rw [<-hr];rfl
   ·rw [rdF,if_neg (fun q=>by rw [hc.2 q] at h;cases h),if_pos ⟨by omega,by omega⟩] at hr
    rw [<-hr];rfl
   ·have q:¬ (i=9/\1 < (b[i]).toNat):=fun q=>by rw [hc.2 q] at h;cases h
    exact hc2 (fun e=>by omega) q (fun q2=>h1 (by omega))
   ·have q:¬ (i=9/\1 < (b[i]).toNat):=fun q=>by rw [hc.2 q] at h;cases h
    exact hc2 (fun e=>by omega) q (fun q2=>h0 (by omega))
  simp only [L6,B7,C6,A0,A6,decide_eq_true_eq,decide_eq_false_iff_not,Int.toNat_natCast,E6 hlt]
  refine⟨fun h=>absurd h (by omega),fun _=>⟨fun h9=>⟨⟨by omega,by omega⟩,hc3 _ ?_⟩,fun h9=>hc3 _ ?_⟩⟩
  ·rw [decide_eq_true_eq];omega
  ·exact⟨(fun h=>by cases h),fun h=>absurd h.1 (by omega)⟩
 ·simp only [L6,B7,C6,A0,A6,decide_eq_true_eq,decide_eq_false_iff_not,Int.toNat_natCast]
  refine⟨fun _=>?_,fun h=>absurd h (by omega)⟩
  rw [List.drop_of_length_le (by omega),rdF] at hr
  rw [<-hr];rfl
end Go.Proofs.YtbipjlehhlkghaaDoor.Am
namespace Go.Proofs.YtbipjlehhlkghaaDoor.Am
open Go
def toF (f:Fld):o6:=(f.num,f.kind,((f.val:Nat):Int),f.byt)
theorem a65 (b:List UInt8):Z2 b=E4 b:=by kernel_rfl
theorem b54 (b:List UInt8) (hb:b.length<=1000000000000):Z2 b=some ((((rd b).1:Nat):Int),(((rd b).2.1:Nat):Int),(((rd b).2.2:Nat):Int)):=(a65 b).trans (c3B b hb)
theorem b55 (op:BinOp) (a b:Int):0<=bits op .u64 a b/\bits op .u64 a b < 18446744073709551616:=by
 unfold bits
 rw [IntKind.wrap_u64]
 omega
theorem c5r {n:Int} (h0:0<=n) (h1:n < 18446744073709551616):bits .and .u64 n 7=n % 8:=by
 obtain⟨m,rfl⟩:∃ m:Nat,n=m:=⟨n.toNat,by omega⟩
 have hm:m < 2 ^ 64:=by omega
 unfold bits
 rw [IntKind.wrap_u64]
 have e:(BitVec.ofInt IntKind.u64.bits (m:Int) &&& BitVec.ofInt IntKind.u64.bits 7).toNat=m % 8:=by
  have e1:(BitVec.ofInt IntKind.u64.bits (m:Int)).toNat=m:=by
   rw [BitVec.toNat_ofInt]
   show((m:Int) % ((2 ^ 64:Nat):Int)).toNat=m
   omega
  have e2:(BitVec.ofInt IntKind.u64.bits 7).toNat=7:=by rfl
  rw [BitVec.toNat_and,e1,e2]
  exact Nat.and_two_pow_sub_one_eq_mod m 3
 simp only [e]
 omega
theorem c1w (b:List UInt8) (hb:b.length<=1000000000000):a1g b=some (toF (a0o b).1,(((a0o b).2.1:Nat):Int),(((a0o b).2.2:Nat):Int)):=by
 rw [<-M9]
 have l1:=b7a b
 have l2:=b7a (b.drop (rd b).2.1)
 rw [List.length_drop] at l2
 have hr2:=b54 (b.drop (rd b).2.1) (by rw [List.length_drop];omega)
 have e1:=b54 b hb
 unfold a0o
 generalize hq:rd b=q at *
 obtain⟨t,z,e⟩:=q
 simp only at l1 l2 hr2 e1 ⊢
 generalize hq2:rd (b.drop z)=q2 at *
 obtain⟨t2,z2,e2⟩:=q2
 simp only at l2 hr2 ⊢
 unfold U64 at l1 l2
 have e7:B0 (bits .and .u64 ((t:Nat):Int) 7)=((t % 8:Nat):Int):=by rw [c5r (by omega) (by omega),D9] <;> omega
 have e8:((t:Nat):Int) / 2 ^ 3=((t / 8:Nat):Int):=by omega
 have ez:B0 (((z:Nat):Int) + ((z2:Nat):Int))=((z + z2:Nat):Int):=by rw [D9] <;> omega
 have ew:B0 (((t / 8:Nat):Nat):Int)=((t / 8:Nat):Int):=by rw [D9] <;> omega
 have el:A7 (((b.length - (z + z2):Nat):Nat):Int)=((b.length - (z + z2):Nat):Int):=by rw [Q0] <;> omega
 have c1:¬ (t / 8 < 1\/536870911 < t / 8\/(t % 8 ≠ 0/\t % 8 ≠ 2))->e=0->Ok (R8 b ((z:Nat):Int) ((t % 8:Nat):Int) ((t / 8:Nat):Int) ((0:Int),(0:Int),(0:Int),[])) (· =(toF (if e2 ≠ 0 then(Fld.zero,0,e2) else if t % 8=0 then(⟨(t / 8:Nat),0,t2,[]⟩,z + z2,0) else if b.length - z - z2 < t2 then(Fld.zero,0,5) else(⟨(t / 8:Nat),2,0,(b.drop (z + z2)).take t2⟩,z + z2 + t2,0)).1,
   (((if e2 ≠ 0 then(Fld.zero,0,e2) else if t % 8=0 then(⟨(t / 8:Nat),0,t2,[]⟩,z + z2,0) else if b.length - z - z2 < t2 then(Fld.zero,0,5) else(⟨(t / 8:Nat),2,0,(b.drop (z + z2)).take t2⟩,z + z2 + t2,0):Fld × Nat × Nat).2.1:Nat):Int),
   (((if e2 ≠ 0 then(Fld.zero,0,e2) else if t % 8=0 then(⟨(t / 8:Nat),0,t2,[]⟩,z + z2,0) else if b.length - z - z2 < t2 then(Fld.zero,0,5) else(⟨(t / 8:Nat),2,0,(b.drop (z + z2)).take t2⟩,z + z2 + t2,0):Fld × Nat × Nat).2.2:Nat):Int))):=by
  intro hc he
  simp only [R8,B7,C6,B6,A0,decide_eq_true_eq,decide_eq_false_iff_not,Bool.not_eq_true',Bool.not_eq_false',Int.toNat_natCast,List.take_length,hr2,ez,ew,List.length_drop,el]
  refine⟨by omega,fun h=>?_,fun h=>⟨fun h1=>?_,fun h1=>⟨by omega,fun h2=>?_,fun h2=>?_⟩⟩⟩
  ·rw [if_pos (by omega)];rfl
  ·rw [if_neg (by omega),if_pos (by omega)]
   rw [show((t % 8:Nat):Int)=0 from h1];rfl
  ·rw [if_neg (by omega),if_neg (by omega),if_pos (by omega)];rfl
  ·have ht2:B0 ((t2:Nat):Int)=((t2:Nat):Int):=by rw [D9] <;> omega
   have et:B0 (((z + z2:Nat):Int) + ((t2:Nat):Int))=((z + z2 + t2:Nat):Int):=by rw [D9] <;> omega
   have e82:t % 8=2:=by omega
   simp only [ht2,et,List.length_take,List.length_drop]
   rw [if_neg (by omega),if_neg (by omega),if_neg (by omega)]
   refine⟨by omega,⟨by unfold LIM;omega,by unfold LEN;omega⟩,?_⟩
   rw [e82];rfl
 simp only [a1g,e1,e7,e8,B7,B6,A0,decide_eq_true_eq,decide_eq_false_iff_not,Bool.not_eq_true',Bool.not_eq_false']
 refine⟨fun h=>?_,fun h=>⟨fun h1=>?_,fun h1=>⟨fun h2=>?_,fun h2=>⟨fun h3=>⟨fun h4=>?_,fun h4=>?_⟩,fun h3=>?_⟩⟩⟩⟩
 ·rw [if_pos (by omega)];rfl
 ·rw [if_neg (by omega),if_pos (by omega)];rfl
 ·rw [if_neg (by omega),if_pos (by omega)];rfl
 ·rw [if_neg (by omega),if_pos (by omega)];rfl
 ·rw [if_neg (by omega),if_neg (by omega)];exact c1 (by omega) (by omega)
 ·rw [if_neg (by omega),if_neg (by omega)];exact c1 (by omega) (by omega)
theorem a37 (b:List UInt8) (hb:b.length<=1000000000000):U8 b=some ((a3I b).1.map toF,(((a3I b).2.1:Nat):Int),(((a3I b).2.2:Nat):Int)):=by
 rw [<-M9]
 unfold U8 a1h
 refine a6d (S:=List UInt8 × Int × List o6) (inv:=fun v=>∃ (k a:Nat) (acc:List Fld),v=(b,((a:Nat):Int),acc.map toF)/\a<=b.length/\b.length < a + k/\acc.length<=1024/\a5s k (b.drop a) a acc=a3I b) (m:=fun v=>((b.length:Int) - v.2.1).toNat) ?_ ⟨b.length + 1,0,[],rfl,by omega,by omega,by simp,rfl⟩ (by simp;omega)
 rintro v ⟨k,a,acc,rfl,ha,hk,hacc,hr⟩
 have hone:=c1w (b.drop a) (by rw [List.length_drop];omega)
 have hbd:=a74 (b.drop a)
 rw [List.length_drop] at hbd
 cases k with
 | zero=>exact absurd hk (by omega)
 | succ k=>
  rw [a5s] at hr
  simp only [M6,a1P,B7,C6,B6,A0,C1,A8,A6,decide_eq_true_eq,decide_eq_false_iff_not,Bool.not_eq_true',Bool.not_eq_false',Int.toNat_natCast,List.take_length,List.length_map,hone]
  refine⟨fun h=>⟨fun h1=>?_,fun h1=>⟨by omega,fun h2=>?_,fun h2=>⟨⟨by unfold LIM;omega,by unfold LEN;omega⟩,?_⟩⟩⟩,fun h=>?_⟩
  ·rw [if_neg (by rw [List.length_drop];omega),if_pos (by omega)] at hr
   rw [<-hr];rfl
  ·rw [if_neg (by rw [List.length_drop];omega),if_neg (by omega),if_pos (by omega)] at hr
   rw [<-hr];rfl
  ·rw [if_neg (by rw [List.length_drop];omega),if_neg (by omega),if_neg (by omega),List.drop_drop] at hr
   have hz:=hbd.2.1 (by omega)
   have ew:B0 (((a:Nat):Int) + (((a0o (b.drop a)).2.1:Nat):Int))=((a + (a0o (b.drop a)).2.1:Nat):Int):=by rw [D9] <;> omega
   rw [ew]
   refine⟨⟨k,_,acc ++ [(a0o (b.drop a)).1],by rw [List.map_append];rfl,by omega,by omega,by simp;omega,hr⟩,by omega⟩
  ·rw [if_pos (by rw [List.length_drop];omega)] at hr
   rw [<-hr];rfl
theorem b3h (f:Fld) (h:f.ok=true):O8 (toF f)=some true/\a1w (toF f)=some true:=by
 simp only [Fld.ok,decide_eq_true_eq] at h
 obtain⟨num,kind,val,byt⟩:=f
 simp only at h
 have d1:decide (num < 1)=false:=decide_eq_false (by omega)
 have d2:decide (536870911 < num)=false:=decide_eq_false (by omega)
 obtain⟨_,_,⟨rfl,hl⟩ | ⟨rfl,rfl⟩⟩:=h
 ·have hb:byt=[]:=List.eq_nil_of_length_eq_zero hl
  subst hb
  unfold O8 a1w toF
  simp only [d1,d2,C8]
  exact⟨rfl,rfl⟩
 ·unfold O8 a1w toF
  simp only [d1,d2,C8]
  exact⟨rfl,rfl⟩
theorem b9J (b:List UInt8) (f:Fld) (h:f.ok=true) (hv:f.val < U64) (hb:b.length<=100000000000) (hl:f.byt.length<=100000000000):U7 b (toF f)=some (b ++ f.enc,0):=by
 rw [<-M9]
 have ht:=Fld.tag_lt f h
 have hr:=(b3h f h).1
 have h':=h
 simp only [Fld.ok,decide_eq_true_eq] at h'
 have q1:(toF f).1=f.num:=rfl
 have e1:A7 (A7 (A7 f.num * 8) + A7 f.kind)=((f.tag:Nat):Int):=by
  rw [ht.2.1,Q0 (n:=f.num) (by omega) (by omega),Q0 (n:=f.kind) (by omega) (by omega),Q0 (n:=f.num * 8) (by omega) (by omega),Q0 (by omega) (by omega)]
  omega
 have e2:=a3J b f.tag ht.1 (by omega)
 have l2:=a1E f.tag ht.1
 have e3:=a3J (b ++ enc f.tag) f.val hv (by rw [List.length_append];omega)
 have e4:A7 ((List.length f.byt:Nat):Int)=((f.byt.length:Nat):Int):=Q0 (by omega) (by omega)
 have e5:=a3J (b ++ enc f.tag) f.byt.length (by unfold U64;omega) (by rw [List.length_append];omega)
 have l5:=a1E f.byt.length (by unfold U64;omega)
 have q3:(toF f).2.2.1=((f.val:Nat):Int):=rfl
 have q4:(toF f).2.2.2=f.byt:=rfl
 have q2:(toF f).2.1=f.kind:=rfl
 simp only [U7,hr,e1,e2,e4,e5,q1,q2,q3,q4,e3,B7,C6,B6,A0,decide_eq_true_eq,decide_eq_false_iff_not,Bool.not_eq_true',Bool.not_eq_false',List.length_append]
 refine⟨fun h=>(by cases h),fun _=>⟨fun hk=>?_,fun hk=>⟨⟨by unfold LIM;omega,by unfold LEN;omega⟩,?_⟩⟩⟩
 ·unfold Fld.enc;rw [if_pos hk,List.append_assoc]
 ·unfold Fld.enc;rw [if_neg hk];simp only [List.append_assoc]
theorem a7u (b:List UInt8) (f:Fld) (h:f.ok=true) (hv:f.val < U64) (hb:b.length<=100000000000) (hl:f.byt.length<=100000000000):O0 b (toF f)=some (b ++ f.enc,0):=by
 rw [<-M9]
 have ht:=Fld.tag_lt f h
 have hr:=(b3h f h).2
 have h':=h
 simp only [Fld.ok,decide_eq_true_eq] at h'
 have e1:a5f (toF f)=some ((f.tag:Nat):Int):=by
  have q1:(toF f).1=f.num:=rfl
  have q2:(toF f).2.1=f.kind:=rfl
  unfold a5f
  rw [q1,q2,ht.2.1,D9 (n:=8 * f.num) (by omega) (by omega),D9 (by omega) (by omega),Q0 (by omega) (by omega)]
 have e2:=a3J b f.tag ht.1 (by omega)
 have l2:=a1E f.tag ht.1
 have e3:=a3J (b ++ enc f.tag) f.val hv (by rw [List.length_append];omega)
 have e4:A7 ((List.length f.byt:Nat):Int)=((f.byt.length:Nat):Int):=Q0 (by omega) (by omega)
 have e5:=a3J (b ++ enc f.tag) f.byt.length (by unfold U64;omega) (by rw [List.length_append];omega)
 have l5:=a1E f.byt.length (by unfold U64;omega)
 have q3:(toF f).2.2.1=((f.val:Nat):Int):=rfl
 have q4:(toF f).2.2.2=f.byt:=rfl
 have q2:(toF f).2.1=f.kind:=rfl
 simp only [O0,hr,e1,b4I,e2,e4,e5,q2,q3,q4,e3,B7,C6,B6,A0,decide_eq_true_eq,decide_eq_false_iff_not,Bool.not_eq_true',Bool.not_eq_false',List.length_append]
 refine⟨fun h=>(by cases h),fun _=>⟨fun hk=>?_,fun hk=>⟨⟨by unfold LIM;omega,by unfold LEN;omega⟩,?_⟩⟩⟩
 ·unfold Fld.enc;rw [if_pos hk,List.append_assoc]
 ·unfold Fld.enc;rw [if_neg hk];simp only [List.append_assoc]
end Go.Proofs.YtbipjlehhlkghaaDoor.Am
namespace Go.Proofs.YtbipjlehhlkghaaDoor.Am
open Go
def byt (s:List UInt8) (p:Nat):Nat:=(s.getD p 0).toNat
theorem b56 (s:List UInt8) (p:Nat):byt s p < 256:=(s.getD p 0).toNat_lt
theorem c3C (s:List UInt8) (p:Nat):((⟨s.toArray⟩:ByteArray).get! p).toNat=byt s p:=by
 unfold byt
 congr 1
 show s.toArray[p]! =_
 rw [Array.getElem!_eq_getD]
 simp [List.getD_eq_getElem?_getD]
 rfl
def b57 (s:List UInt8) (p:Nat):Nat × Nat:=Lib.decodeN (s.length - p) (byt s p) (byt s (p + 1)) (byt s (p + 2)) (byt s (p + 3))
theorem a6g (s:List UInt8) (p:Nat):Utf8.decode ⟨s.toArray⟩ p=b57 s p:=by
 rw [Lib.decode_at]
 simp only [c3C]
 rfl
theorem c1x (s:List UInt8) (p j:Nat):byt (s.drop p) j=byt s (p + j):=by
 simp [byt,List.getD_eq_getElem?_getD,List.getElem?_drop]
theorem b1T {s:List UInt8} {p:Nat} (h:p < s.length):Lib.decodeGo ⟨(s.drop p).toArray⟩=b57 s p:=by
 unfold Lib.decodeGo
 have h0:¬ (⟨(s.drop p).toArray⟩:ByteArray).size=0:=by
  show ¬ (s.drop p).toArray.size=0
  simp;omega
 rw [if_neg h0,a6g]
 unfold b57
 simp only [c1x,List.length_drop,Nat.sub_zero,Nat.add_zero,Nat.zero_add]
def a3d (s:List UInt8) (p:Nat):Nat:=if(b57 s p).1=65533/\(b57 s p).2=1 then 0 else(b57 s p).2
abbrev fol (n j b:Nat):Prop:=j < n/\128<=b/\b < 192
def a9y (n b0 b1 b2 b3:Nat):Nat:=
 if b0 < 128 then 1
 else if(194<=b0/\b0 < 224)/\fol n 1 b1 then 2
 else if(224<=b0/\b0 < 240)/\fol n 1 b1/\fol n 2 b2 then(if(b0=224/\b1 < 160)\/(b0=237/\160<=b1) then 0 else 3)
 else if(240<=b0/\b0 < 245)/\fol n 1 b1/\fol n 2 b2/\fol n 3 b3 then(if(b0=240/\b1 < 144)\/(b0=244/\144<=b1) then 0 else 4)
 else 0
set_option maxHeartbeats 4000000 in
theorem c1y (n b0 b1 b2 b3:Nat) (h0:b0 < 256) (h1:b1 < 256) (h2:b2 < 256) (h3:b3 < 256) :
  a9y n b0 b1 b2 b3=if(Lib.decodeN n b0 b1 b2 b3).1=65533/\(Lib.decodeN n b0 b1 b2 b3).2=1 then 0 else(Lib.decodeN n b0 b1 b2 b3).2:=by
 by_cases c1:b0 < 128
 ·simp [a9y,Lib.decodeN,c1]
  omega
 by_cases c2:b0 < 224
 ·simp only [a9y,Lib.decodeN,fol,c1,if_false,show b0 / 16 ≠ 14 by omega,show b0 / 8 ≠ 30 by omega,show ¬ 224<=b0 by omega,show ¬ 240<=b0 by omega,false_and]
  repeat' split
  all_goals omega
 by_cases c3:b0 < 240
 ·simp only [a9y,Lib.decodeN,fol,c1,if_false,show b0 / 32 ≠ 6 by omega,show b0 / 8 ≠ 30 by omega,show ¬ b0 < 224 by omega,show ¬ 240<=b0 by omega,false_and,and_false]
  repeat' split
  all_goals omega
 ·simp only [a9y,Lib.decodeN,fol,c1,if_false,show b0 / 32 ≠ 6 by omega,show b0 / 16 ≠ 14 by omega,show ¬ b0 < 224 by omega,show ¬ b0 < 240 by omega,false_and,and_false]
  repeat' split
  all_goals omega
theorem a7v (s:List UInt8) (p:Nat):a3d s p=a9y (s.length - p) (byt s p) (byt s (p + 1)) (byt s (p + 2)) (byt s (p + 3)):=by
 rw [c1y _ _ _ _ _ (b56 _ _) (b56 _ _) (b56 _ _) (b56 _ _)]
 rfl
theorem b1U (s:List UInt8) (p:Nat):a3d s p<=4:=by
 rw [a7v]
 unfold a9y
 repeat' split
 all_goals omega
end Go.Proofs.YtbipjlehhlkghaaDoor.Am
