/- Texts laid together: PFieldsSame, PDec. No conditions. -/
import Derived.Test.YtbipjlehhlkghaaGreatDoorFAll
import Derived.Test.YtbipjlehhlkghaaGreatDoorQAE
import Derived.KernelRfl
import Derived.Test.YtbipjlehhlkghaaGreatDoorQAL
namespace Go.Proofs.YtbipjlehhlkghaaGreatDoor.Am.FSm
open Go
theorem c5O {S R:Type} {G1 G2:S->Option (S ⊕ R)} (inv:S->Prop) (h:∀ x,inv x->G1 x=G2 x/\∀ y,G1 x=some (.inl y)->inv y):∀ {x:S},inv x->I2 G1 x=I2 G2 x:=by
 have key:∀ (n:Nat) (x:S),inv x->a1E n G1 x=a1E n G2 x:=by
  intro n
  induction n with
  | zero=>intro x _;rfl
  | succ n ih=>
   intro x hx
   obtain⟨h1,h2⟩:=h x hx
   unfold a1E
   rw [<-h1]
   cases hg:G1 x with
   | none=>rfl
   | some y=>
    cases y with
    | inl z=>exact ih z (h2 z hg)
    | inr r=>rfl
 intro x hx
 exact key _ x hx
theorem c4s (op:BinOp) (a b:Int):0<=bits op .u64 a b/\bits op .u64 a b < 18446744073709551616:=by
 unfold bits
 rw [IntKind.wrap_u64]
 omega
theorem d6a {n:Int} (h0:0<=n) (h1:n < 18446744073709551616):bits .and .u64 n 7=n % 8:=by
 obtain⟨m,rfl⟩:∃ m:Nat,n=m:=⟨n.toNat,by omega⟩
 have hm:m < 2 ^ 64:=by omega
 unfold bits
 rw [IntKind.wrap_u64]
 have e:(BitVec.ofInt IntKind.u64.bits (m:Int) &&& BitVec.ofInt IntKind.u64.bits 7).toNat=m % 8:=by
  have e1:(BitVec.ofInt IntKind.u64.bits (m:Int)).toNat=m:=by
   rw [BitVec.toNat_ofInt]
   show((m:Int) % ((2 ^ 64:Nat):Int)).toNat=m
   omega
  have e2:(BitVec.ofInt IntKind.u64.bits 7).toNat=7:=by rfl
  rw [BitVec.toNat_and,e1,e2]
  exact Nat.and_two_pow_sub_one_eq_mod m 3
 simp only [e]
 omega
theorem b4r (b:List UInt8):a3R b=L2 b:=by kernel_rfl
def d0S (b:List UInt8) (r:Int × Int × Int):Prop:=0<=r.1/\r.1 < 18446744073709551616/\0<=r.2.1/\r.2.1<=b.length/\(r.2.2=0->1<=r.2.1)
theorem b9R (b:List UInt8) (hb:b.length<=1000000000):Ok (L2 b) (d0S b):=by
 unfold L2 a20
 refine b0m (S:=List UInt8 × Int × Int) (inv:=fun v=>v.1=b/\0<=v.2.1/\v.2.1 < 18446744073709551616/\0<=v.2.2/\v.2.2<=b.length/\v.2.2<=9) (m:=fun v=>(10 - v.2.2).toNat) ?_ ⟨rfl,by simp,by simp,by simp,by simp,by simp⟩ (by simp)
 rintro⟨v0,n,i⟩ ⟨rfl,h1,h2,h3,h4,h5⟩
 simp only at h1 h2 h3 h4 h5
 have hg:=c4i (List.getD v0 (Int.toNat i) (0:UInt8))
 have hw:A5 (7 * i)=7 * i:=E0 (by omega) (by omega)
 have hw2:A5 (i + 1)=i + 1:=E0 (by omega) (by omega)
 have c2:i < v0.length->(i=9->(List.getD v0 (Int.toNat i) (0:UInt8)).toNat < 128)->Ok (M1 v0 n i) (Nxt (d0S v0) fun z=>(z.1=v0/\0<=z.2.1/\z.2.1 < 18446744073709551616/\0<=z.2.2/\z.2.2<=v0.length/\z.2.2<=9)/\(10 - z.2.2).toNat < (10 - i).toNat):=by
  intro hi h9
  simp only [M1,B4,B8,C0,E5,A3,decide_eq_true_eq,decide_eq_false_iff_not,Int.not_lt,hw,hw2,d0S]
  have hb2:=c4s .or n (B1 (B1 (bits .and .u8 ((UInt8.toNat (List.getD v0 (Int.toNat i) (0:UInt8)):Nat):Int) 127) * 2 ^ (min (Int.toNat (7 * i)) 64)))
  refine⟨⟨h3,hi⟩,by omega,⟨h3,hi⟩,fun h=>⟨hb2.1,hb2.2,by omega,by omega,fun _=>by omega⟩,fun h=>⟨⟨trivial,hb2.1,hb2.2,by omega,by omega,?_⟩,by omega⟩⟩
  have:i ≠ 9:=fun e=>by have:=h9 e;omega
  omega
 have c3:∀ v14:Bool,i < v0.length->(v14=false->i=9->(List.getD v0 (Int.toNat i) (0:UInt8)).toNat < 128)->Ok (M2 v0 n i v14) (Nxt (d0S v0) fun z=>(z.1=v0/\0<=z.2.1/\z.2.1 < 18446744073709551616/\0<=z.2.2/\z.2.2<=v0.length/\z.2.2<=9)/\(10 - z.2.2).toNat < (10 - i).toNat):=by
  intro v14 hi h9
  simp only [M2,B8,C0,E5,A3,decide_eq_true_eq,decide_eq_false_iff_not,Int.not_lt]
  refine⟨fun _=>⟨by simp,by simp,by simp,by simp,by simp⟩,fun hv=>⟨fun _=>⟨⟨h3,hi⟩,fun _=>⟨by simp,by simp,by simp,by simp,by simp⟩,fun _=>c2 hi (h9 hv)⟩,fun _=>c2 hi (h9 hv)⟩⟩
 simp only [U6,B8,C0,E5,A3,decide_eq_true_eq,decide_eq_false_iff_not,Int.not_le]
 refine⟨fun _=>⟨by simp,by simp,by simp,by simp,by simp⟩,fun hi=>⟨fun e=>⟨⟨h3,by omega⟩,c3 _ (by omega) fun hd _=>?_⟩,fun e=>c3 false (by omega) fun _ e'=>absurd e' e⟩⟩
 simp only [decide_eq_false_iff_not] at hd
 omega
theorem a7Q {α:Type} (l:List α) (k:Nat):List.drop k (List.take (Int.toNat ((List.length l:Nat):Int)) l)=List.drop k l:=by
 rw [Int.toNat_natCast,List.take_length]
theorem d7g {n:Int} (h0:0<=n) (h1:n < 18446744073709551616):B1 (Int.tdiv n 8)=n / 8:=by
 rw [Int.tdiv_eq_ediv_of_nonneg h0]
 exact K9 (by omega) (by omega)
theorem d7h {n:Int} (h0:0<=n):Int.tmod n 8=n % 8:=Int.tmod_eq_emod_of_nonneg h0
theorem b9S (b:List UInt8) (hb:b.length<=1000000000):a6d b=a14 b/\Ok (a14 b) fun r=>0<=r.2.1/\r.2.1<=b.length/\(r.2.2=0->1<=r.2.1):=by
 obtain⟨r,hr,h1,h2,h3,h4,h5⟩:=b9R b hb
 have e7:A5 (bits .and .u64 r.1 7)=r.1 % 8:=by rw [d6a h1 h2];exact E0 (by omega) (by omega)
 have e8:A5 (Int.tmod r.1 8)=r.1 % 8:=by rw [d7h h1];exact E0 (by omega) (by omega)
 have e9:r.1 / 2 ^ 3=r.1 / 8:=by rfl
 have ed:=d7g h1 h2
 have hc:∀ k d,(r.2.2=0)->a1v b r.2.1 k (r.1 / 8) d=Q8 b r.1 r.2.1 k d/\Ok (Q8 b r.1 r.2.1 k d) fun q=>0<=q.2.1/\q.2.1<=b.length/\(q.2.2=0->1<=q.2.1):=by
  intro k d he
  have h5':=h5 he
  obtain⟨q,hq,q1,q2,q3,q4,q5⟩:=b9R (List.drop (Int.toNat r.2.1) b) (by rw [List.length_drop];omega)
  rw [List.length_drop] at q4
  have q4':q.2.1<=b.length - r.2.1:=by omega
  have ew:A5 (r.2.1 + q.2.1)=r.2.1 + q.2.1:=E0 (by omega) (by omega)
  have e1:chk (decide ((0:Int)<=r.2.1/\r.2.1<=((List.length b:Nat):Int)/\((List.length b:Nat):Int)<=((List.length b:Nat):Int)))=fun(x:Option (A1 × Int × Int))=>x:=by
   rw [decide_eq_true (by omega)];rfl
  have elen:(List.length (List.drop (Int.toNat (r.2.1 + q.2.1)) b):Int)=b.length - (r.2.1 + q.2.1):=by rw [List.length_drop];omega
  have eu:B1 ((List.length (List.drop (Int.toNat (r.2.1 + q.2.1)) b):Nat):Int)=b.length - (r.2.1 + q.2.1):=by rw [elen];exact K9 (by omega) (by omega)
  have eu2:B1 (A5 (A5 (((List.length b:Nat):Int) - r.2.1) - q.2.1))=b.length - (r.2.1 + q.2.1):=by
   rw [E0 (n:=((List.length b:Nat):Int) - r.2.1) (by omega) (by omega),E0 (by omega) (by omega),K9 (by omega) (by omega)]
   omega
  unfold a1v Q8
  rw [e1]
  simp only [a7Q,b4r,hq,Option.bind_some,ew,eu,eu2,ed]
  cases hz:decide (q.2.2=0) with
  | false=>exact⟨rfl,⟨_,rfl,by simp,by simp,fun e=>by simp at hz;exact absurd e hz⟩⟩
  | true=>
   simp only [Bool.not_true]
   have hz':q.2.2=0:=of_decide_eq_true hz
   have q5':=q5 hz'
   cases hk:decide (k=0) with
   | true=>exact⟨rfl,⟨_,rfl,by simp only;omega,by simp only;omega,fun _=>by simp only;omega⟩⟩
   | false=>
    simp only [sel]
    have c1:decide ((0:Int)<=r.2.1 + q.2.1/\r.2.1 + q.2.1<=((List.length b:Nat):Int)/\((List.length b:Nat):Int)<=((List.length b:Nat):Int))=true:=decide_eq_true (by omega)
    rw [c1]
    cases hv:decide (b.length - (r.2.1 + q.2.1) < q.1) with
    | true=>exact⟨rfl,⟨_,rfl,by simp,by simp,fun e=>by simp at e⟩⟩
    | false=>
     simp only [decide_eq_false_iff_not,Int.not_lt] at hv
     have ev:A5 q.1=q.1:=E0 (by omega) (by omega)
     have ev2:A5 (r.2.1 + q.2.1 + q.1)=r.2.1 + q.2.1 + q.1:=E0 (by omega) (by omega)
     have et:List.drop (Int.toNat (r.2.1 + q.2.1)) (List.take (Int.toNat (r.2.1 + q.2.1 + q.1)) b)=List.take (Int.toNat q.1) (List.drop (Int.toNat (r.2.1 + q.2.1)) b):=by
      rw [List.drop_take]
      congr 1
      omega
     have el:(List.take (Int.toNat q.1) (List.drop (Int.toNat (r.2.1 + q.2.1)) b)).length<=1000000000:=by
      rw [List.length_take,List.length_drop];omega
     simp only [ev,ev2,et]
     have d1:decide ((0:Int)<=0/\0<=q.1/\q.1<=((List.length (List.drop (Int.toNat (r.2.1 + q.2.1)) b):Nat):Int))=true:=decide_eq_true (by rw [elen];omega)
     have d2:decide ((List.length (List.take (Int.toNat q.1) (List.drop (Int.toNat (r.2.1 + q.2.1)) b))) * 1<=LIM/\(List.length (List.take (Int.toNat q.1) (List.drop (Int.toNat (r.2.1 + q.2.1)) b)))<=LEN)=true:=decide_eq_true (by unfold LIM LEN;omega)
     have d3:decide ((0:Int)<=r.2.1 + q.2.1/\r.2.1 + q.2.1<=r.2.1 + q.2.1 + q.1/\r.2.1 + q.2.1 + q.1<=((List.length b:Nat):Int))=true:=decide_eq_true (by omega)
     have d4:decide ((0 + (List.length (List.take (Int.toNat q.1) (List.drop (Int.toNat (r.2.1 + q.2.1)) b)))) * 1<=LIM/\0 + (List.length (List.take (Int.toNat q.1) (List.drop (Int.toNat (r.2.1 + q.2.1)) b)))<=LEN)=true:=decide_eq_true (by unfold LIM LEN;omega)
     rw [d1,d2,d3,d4]
     exact⟨rfl,⟨_,rfl,by simp only;omega,by simp only;omega,fun _=>by simp only;omega⟩⟩
 unfold a6d a14
 simp only [b4r,hr,Option.bind_some,e7,e8,ed,e9]
 cases hz:decide (r.2.2=0) with
 | false=>exact⟨rfl,⟨_,rfl,by simp,by simp,fun e=>by simp at hz;exact absurd e hz⟩⟩
 | true=>
  have hz':r.2.2=0:=of_decide_eq_true hz
  simp only [Bool.not_true]
  cases h1:decide (r.1 / 8 < 1) with
  | true=>exact⟨rfl,⟨_,rfl,by simp,by simp,fun e=>by simp at e⟩⟩
  | false=>
   cases h2:decide (536870911 < r.1 / 8) with
   | true=>exact⟨rfl,⟨_,rfl,by simp,by simp,fun e=>by simp at e⟩⟩
   | false=>
    cases h3:decide (r.1 % 8=0) with
    | true=>exact hc _ ((0:Int),(0:Int),(0:Int),[]) hz'
    | false=>
     cases h4:decide (r.1 % 8=2) with
     | true=>exact hc _ ((0:Int),(0:Int),(0:Int),[]) hz'
     | false=>exact⟨rfl,⟨_,rfl,by simp,by simp,fun e=>by simp at e⟩⟩
theorem fields_same (b:List UInt8) (hb:b.length<=1000000000):a2p b=N4 b/\Ok (N4 b) fun r=>r.1.length<=1024:=by
 have hd:∀ i:Int,(List.drop (Int.toNat i) b).length<=1000000000:=fun i=>by rw [List.length_drop];omega
 refine⟨?_,?_⟩
 ·unfold a2p a6e N4 a15
  refine c5O (S:=List UInt8 × Int × List A1) (inv:=fun v=>v.1=b/\v.2.2.length<=1024) ?_ ⟨rfl,by simp⟩
  rintro⟨v0,i,l⟩ ⟨h0,hl⟩
  simp only at h0 hl
  subst h0
  obtain⟨r,hr,_⟩:=(b9S _ (hd i)).2
  have e:=(b9S _ (hd i)).1
  have e2:decide (((List.length l:Nat):Int)=1024)=decide (1024<=((List.length l:Nat):Int)):=by
   rw [decide_eq_decide];omega
  have e3:X4 v0 i l=H5 v0 i l:=by
   simp only [X4,H5,a7Q,e,e2]
   rfl
  refine⟨e3,fun y hy=>?_⟩
  by_cases hi:0<=i
  ·have h:Ok (H5 v0 i l) (Nxt (fun _=>True) fun z=>z.1=v0/\z.2.2.length<=1024):=by
    simp only [H5,a7Q,hr,Option.bind_some,a0d,B4,B8,C0,E5,A3,D5,decide_eq_true_eq,decide_eq_false_iff_not,Bool.not_eq_true',Bool.not_eq_false',Int.not_lt,Int.not_le]
    refine⟨fun h=>⟨fun _=>trivial,fun h4=>⟨⟨hi,by omega,by omega⟩,fun _=>trivial,fun h5=>⟨⟨by unfold LIM;omega,by unfold LEN;omega⟩,?_⟩⟩⟩,fun _=>trivial⟩
    simp only [List.length_append,List.length_cons,List.length_nil]
    exact⟨trivial,by omega⟩
   obtain⟨y',e',h'⟩:=h
   have hy':X4 v0 i l=some (.inl y):=hy
   rw [e3,e'] at hy'
   injection hy' with hy'
   subst hy'
   exact h'
  ·exfalso
   have hy':X4 v0 i l=some (.inl y):=hy
   rw [e3] at hy'
   have:H5 v0 i l=some (.inl y)->0<=i:=by
    unfold H5
    cases decide (i < ((List.length v0:Nat):Int)) with
    | false=>intro h;cases h
    | true=>
     cases decide (1024<=((List.length l:Nat):Int)) with
     | true=>intro h;cases h
     | false=>
      intro h
      have:=(a3O h).1
      have:=of_decide_eq_true this
      exact this.1
   exact hi (this hy')
 ·unfold N4 a15
  refine b0m (S:=List UInt8 × Int × List A1) (inv:=fun v=>v.1=b/\v.2.2.length<=1024/\0<=v.2.1/\v.2.1<=b.length) (m:=fun v=>((b.length:Int) - v.2.1).toNat) ?_ ⟨rfl,by simp,by simp,by simp⟩ (by simp;omega)
  rintro⟨v0,i,l⟩ ⟨h0,hl,hi,hi2⟩
  simp only at h0 hl hi hi2
  subst h0
  obtain⟨r,hr,h1,h2,h3⟩:=(b9S _ (hd i)).2
  rw [List.length_drop] at h2
  simp only [H5,a7Q,hr,Option.bind_some,a0d,B4,B8,C0,E5,A3,D5,decide_eq_true_eq,decide_eq_false_iff_not,Bool.not_eq_true',Bool.not_eq_false',Int.not_lt,Int.not_le]
  refine⟨fun h=>⟨fun _=>by simp,fun h4=>⟨⟨hi,by omega,by omega⟩,fun _=>by simp,fun h5=>⟨⟨by unfold LIM;omega,by unfold LEN;omega⟩,?_⟩⟩⟩,fun _=>hl⟩
  have h6:=h3 h5
  have ew:A5 (i + r.2.1)=i + r.2.1:=E0 (by omega) (by omega)
  simp only [ew,List.length_append,List.length_cons,List.length_nil]
  exact⟨⟨trivial,by omega,by omega,by omega⟩,by omega⟩
end Go.Proofs.YtbipjlehhlkghaaGreatDoor.Am.FSm
namespace Go.Proofs.YtbipjlehhlkghaaGreatDoor.Am
open Go
theorem c5P {f:Fld} (h:f.ok=true):f.byt.length<=f.enc.length:=by
 simp only [Fld.ok,decide_eq_true_eq] at h
 unfold Fld.enc
 rw [List.length_append]
 split
 ·omega
 ·rw [List.length_append];omega
theorem b5E:∀ {l:List Fld},(∀ f ∈ l,f.ok=true)->∀ f ∈ l,f.byt.length<=(a3l l).length
 | g :: l,h,f,hf=>by
  rw [a6V,List.length_append]
  rcases List.mem_cons.1 hf with rfl | hf
  ·have:=c5P (h f (by simp));omega
  ·have:=b5E (fun q hq=>h q (by simp [hq])) f hf;omega
theorem b14 (b:List UInt8):∀ f ∈ (a8X b).1,f.ok=true/\f.val < U64/\f.byt.length<=b.length:=by
 have h:=c4q b
 by_cases h0:(a8X b).2.2=0
 ·obtain⟨_,h2,h3,_⟩:=h.1 h0
  intro f hf
  have:=b5E (fun q hq=>(h3 q hq).1) f hf
  rw [h2] at this
  exact⟨(h3 f hf).1,(h3 f hf).2,this⟩
 ·rw [(h.2 h0).1];intro f hf;cases hf
theorem c1p:∀ (l:List Fld) (x:o8),(∀ f ∈ l,f.val < U64/\f.byt.length<=10000)->TrS x->TrS (l.foldl c1K x)
 | [],_,_,h=>h
 | f :: l,x,hf,h=>by
  refine c1p l (c1K x f) (fun g hg=>hf g (by simp [hg])) ?_
  have h1:=hf f (by simp)
  unfold U64 at h1
  unfold c1K
  split
  ·exact⟨h1.2,h.2⟩
  split
  ·exact⟨h.1,by unfold b13;simp only;omega⟩
  ·exact h
theorem d19 {b:List UInt8} (hb:b.length<=10000):TrS (b5P b):=by
 refine c1p _ _ (fun f hf=>?_) ⟨by simp,by decide,by decide⟩
 have:=b14 b f hf
 exact⟨this.2.1,by omega⟩
def TxK (k:Nat) (t:A7):Prop:=t.1.length<=10000/\b13 t.2.1/\b13 t.2.2.1/\b13 t.2.2.2.1/\t.2.2.2.2.1.length<=10000/\t.2.2.2.2.2.length<=k/\∀ x ∈ t.2.2.2.2.2,TrS x
theorem c1q:∀ (l:List Fld) (t:A7) (k:Nat),(∀ f ∈ l,f.val < U64/\f.byt.length<=10000)->TxK k t->TxK (k + l.length) (l.foldl b1v t)
 | [],_,_,_,h=>h
 | f :: l,t,k,hf,h=>by
  have h1:=hf f (by simp)
  unfold U64 at h1
  have hv:b13 ((f.val:Nat):Int):=by unfold b13;omega
  have ih:=c1q l (b1v t f) (k + 1) (fun g hg=>hf g (by simp [hg])) (by
   obtain⟨a1,a2,a3,a4,a5,a6,a7⟩:=h
   unfold b1v
   split
   ·exact⟨h1.2,a2,a3,a4,a5,Nat.le_succ_of_le a6,a7⟩
   split
   ·exact⟨a1,hv,a3,a4,a5,Nat.le_succ_of_le a6,a7⟩
   split
   ·exact⟨a1,a2,hv,a4,a5,Nat.le_succ_of_le a6,a7⟩
   split
   ·exact⟨a1,a2,a3,hv,a5,Nat.le_succ_of_le a6,a7⟩
   split
   ·exact⟨a1,a2,a3,a4,h1.2,Nat.le_succ_of_le a6,a7⟩
   split
   ·refine⟨a1,a2,a3,a4,a5,by simp only [List.length_append,List.length_cons,List.length_nil];omega,fun x hx=>?_⟩
    rcases List.mem_append.1 hx with hx | hx
    ·exact a7 x hx
    ·simp only [List.mem_singleton] at hx;subst hx;exact d19 h1.2
   ·exact⟨a1,a2,a3,a4,a5,Nat.le_succ_of_le a6,a7⟩)
  rw [List.foldl_cons,List.length_cons,show k + (l.length + 1)=k + 1 + l.length by omega]
  exact ih
theorem d5T {l:List Fld} (hl:l.length<=2000) (h:∀ f ∈ l,f.val < U64/\f.byt.length<=10000):TxS (b8D l):=by
 have:=c1q l a4A 0 h ⟨by simp [a4A],⟨by decide,by decide⟩,⟨by decide,by decide⟩,⟨by decide,by decide⟩,by simp [a4A],by simp [a4A],by simp [a4A]⟩
 obtain⟨a1,a2,a3,a4,a5,a6,a7⟩:=this
 exact⟨a1,a2,a3,a4,a5,by unfold b8D;omega,a7⟩
theorem TxS.b {t:A7} (h:TxS t):TxB t:=by
 obtain⟨a1,_,_,_,a5,a6,a7⟩:=h
 exact⟨by omega,by omega,by omega,fun x hx=>by have:=(a7 x hx).1;omega⟩
theorem TxS.n {t:A7} (h:TxS t):TxN t:=by
 obtain⟨_,a2,a3,a4,_,_,a7⟩:=h
 exact⟨a2,a3,a4,fun x hx=>(a7 x hx).2⟩
theorem d0T {L:List Fld} {raw:List UInt8} (hL:∀ f ∈ L,f.ok=true/\f.val < U64/\f.byt.length < U64) (h:a3l L=raw) (h0:(a8X raw).2.2=0):(a8X raw).1=L:=by
 subst h
 rcases Nat.lt_or_ge 1024 L.length with hl | hl
 ·have:=b8B L ((a3l L).length + 1) 0 [] (by omega) (by simp) (by simpa using hl) hL
  rw [a8X,this] at h0
  cases h0
 ·rw [b7h L hl hL]
def a2X (raw:List UInt8):A7 × Int:=
 if 4096 < raw.length then(a4A,3) else if(a8X raw).2.2 ≠ 0 then(a4A,4) else if a3l (txF (b8D (a8X raw).1))=raw then
  (if a40 (b8D (a8X raw).1)=0 then(b8D (a8X raw).1,0) else(a4A,a40 (b8D (a8X raw).1))) else(a4A,4)
theorem d3B {raw:List UInt8} (h:raw.length<=4096):TxS (b8D (a8X raw).1):=d5T (by have:=b4t raw;omega) (fun f hf=>by have:=b14 raw f hf;exact⟨this.2.1,by omega⟩)
theorem c8y {raw:List UInt8} (hraw:raw.length<=10000000):a71 raw=some (a2X raw):=by
 rw [<-L4]
 unfold a2X
 have hz:(([],(0:Int),(0:Int),(0:Int),[],[]):A7)=a4A:=rfl
 by_cases h:4096 < raw.length
 ·rw [if_pos h]
  simp only [a71,C0,B6,A3,decide_eq_true_eq,decide_eq_false_iff_not,Bool.not_eq_true',Bool.not_eq_false',hz]
  exact⟨fun _=>trivial,fun hc=>absurd hc (by omega)⟩
 ·rw [if_neg h]
  have hs:=d3B (raw:=raw) (by omega)
  have hr:=b9R (a8X raw).1 (by have:=b4t raw;omega) (fun f hf=>by have:=b14 raw f hf;omega)
  simp only [a71,C0,B6,A3,decide_eq_true_eq,decide_eq_false_iff_not,Bool.not_eq_true',Bool.not_eq_false',hz,b0o raw (by omega),hr,c5N hs,a99,d0P hs.b]
  refine⟨fun hc=>absurd hc (by omega),fun _=>⟨fun h1=>?_,fun h1=>⟨fun h2=>?_,fun h2=>⟨fun h3=>?_,fun h3=>?_⟩⟩⟩⟩
  ·rw [if_pos (by omega)]
  ·rw [if_neg (by omega),if_neg h2]
  ·rw [if_neg (by omega),if_pos h2,if_neg h3]
  ·rw [if_neg (by omega),if_pos h2,if_pos h3]
def c5Q (f:Fld):Prop:=(f.num=1/\f.kind=2)\/(f.num=2/\f.kind=0)
instance (f:Fld):Decidable (c5Q f):=by unfold c5Q;infer_instance
def b7Q (b:List UInt8):Bool:=(a8X b).1.all (fun f=>decide (c5Q f)) && (decide ((a8X b).2.2=0) && decide (a3l (trF (b5P b))=b))
theorem d2a {l:List Fld} {p:Fld->Bool} {i:Nat} (h:i < l.length) (hn:p l[i]=false):l.all p=false:=by
 rw [List.all_eq_false]
 exact⟨l[i],List.getElem_mem h,by simp [hn]⟩
theorem c8z {l:List Fld} {p:Fld->Bool} (h:∀ j (hj:j < l.length),p l[j]=true):l.all p=true:=by
 rw [List.all_eq_true]
 intro x hx
 obtain⟨j,hj,rfl⟩:=List.mem_iff_getElem.1 hx
 exact h j hj
theorem c1r {b:List UInt8} (hb:b.length<=10000):Ok (a0e b) fun r=>r.2=b7Q b/\(b7Q b=true->r.1=b5P b):=by
 have hl:=b4t b
 have hs:=d19 hb
 have hf:=b0o b (by omega)
 rw [(FSm.fields_same b (by omega)).1] at hf
 unfold a0e
 rw [hf,Option.bind_some]
 have hT:b5P b=(a8X b).1.foldl c1K ([],0):=rfl
 have hR:b7Q b=((a8X b).1.all (fun f=>decide (c5Q f)) && (decide ((a8X b).2.2=0) && decide (a3l (trF (b5P b))=b))):=rfl
 generalize hq:(a8X b).1=l at *
 generalize (a8X b).2.2=err at *
 have hm:(l.map toF).length=l.length:=List.length_map ..
 unfold a3u
 refine E7 (l.map toF) (fun i (x:o8)=>(b,((err:Nat):Int),(((l.map toF).length:Nat):Int),((i:Nat):Int),(([],(0:Int)):o8),x,l.map toF)) (fun i x=>(∀ j (hj:j < l.length),j < i->c5Q l[j])/\(l.drop i).foldl c1K x=b5P b) (fun i x hi hv=>?_) (fun x hv=>?_) ⟨fun j hj h=>by omega,by rw [hT];rfl⟩ (by omega)
 ·obtain⟨hv1,hv2⟩:=hv
  have hi':i < l.length:=by omega
  have q3:List.getD (l.map toF) i B7=toF l[i]:=by rw [D8 hi,List.getElem_map]
  have qn:(toF l[i]).1=l[i].num:=rfl
  have qk:(toF l[i]).2.1=l[i].kind:=rfl
  rw [List.drop_eq_getElem_cons hi',List.foldl_cons] at hv2
  have no:¬ c5Q l[i]->∀ y:o8,(false=b7Q b/\(b7Q b=true->y=b5P b)):=fun hn y=>by
   have e:b7Q b=false:=by rw [hR,d2a hi' (by simpa using hn)];rfl
   rw [e];exact⟨rfl,fun h=>by cases h⟩
  have yes:c5Q l[i]->∀ y:o8,y=c1K x l[i]->∃ b':o8,((b,((err:Nat):Int),(((l.map toF).length:Nat):Int),((i + 1:Nat):Int),(([],(0:Int)):o8),y,l.map toF):List UInt8 × Int × Int × Int × o8 × o8 × List A1)=(b,((err:Nat):Int),(((l.map toF).length:Nat):Int),((i + 1:Nat):Int),(([],(0:Int)):o8),b',l.map toF)/\(∀ j (hj:j < l.length),j < i + 1->c5Q l[j])/\(l.drop (i + 1)).foldl c1K b'=b5P b:=fun ho y hy=>by
   refine⟨y,rfl,fun j hj hlt=>?_,by rw [hy];exact hv2⟩
   by_cases e:j=i
   ·subst e;exact ho
   ·exact hv1 j hj (by omega)
  simp only [R6,R5,R4,C0,E5,A3,D5,B4,B8,decide_eq_true_eq,decide_eq_false_iff_not,Int.toNat_natCast,q3,qn,qk,E2 (i:=i) (by omega)]
  refine⟨fun _=>⟨by omega,by omega,fun h1=>⟨fun h2=>?_,fun h2=>⟨fun h3=>?_,fun h3=>⟨fun h4=>?_,fun h4=>?_⟩⟩⟩,fun h1=>⟨fun h2=>?_,fun h2=>⟨fun h3=>⟨fun h4=>?_,fun h4=>?_⟩,fun h3=>⟨fun h4=>?_,fun h4=>?_⟩⟩⟩⟩,fun hc=>absurd hc (by omega)⟩
  all_goals first
   | (exfalso;omega)
   | contradiction
   | exact no (by unfold c5Q;omega) _
   | (refine yes (by unfold c5Q;omega) _ ?_;unfold c1K;rw [if_pos h1];rfl)
   | (refine yes (by unfold c5Q;omega) _ ?_;unfold c1K;rw [if_neg h1,if_pos h3];rfl)
   | skip
 ·obtain⟨hv1,hv2⟩:=hv
  rw [hm,List.drop_length] at hv2
  have hx:x=b5P b:=hv2
  subst hx
  have hall:l.all (fun f=>decide (c5Q f))=true:=c8z fun j hj=>by simpa using hv1 j hj (by omega)
  have q1:=b9Q (l:=[]) (n:=1) (s:=(b5P b).1) (by simp) (by have:=hs.1;omega)
  rw [List.nil_append] at q1
  have q2:=a9U (l:=(b0R 1 (b5P b).1).map toF) (n:=2) (by rw [List.length_map];have:=a7P 1 (b5P b).1;omega) hs.2
  rw [<-List.map_append] at q2
  have q4:=b40 (l:=trF (b5P b)) (by omega) (c8v hs) (by unfold trF;rw [List.length_append];have:=a7P 1 (b5P b).1;have:=a8Z 2 (b5P b).2;omega)
  have q4':D9 (List.map toF (b0R 1 (b5P b).1 ++ a9k 2 (b5P b).2))=some (a3l (trF (b5P b))):=q4
  simp only [R6,a0Z,C0,E5,B6,A3,D5,B8,decide_eq_true_eq,decide_eq_false_iff_not,Int.toNat_natCast,q1,q2,q4',P9]
  refine⟨fun hc=>absurd hc (by omega),fun _=>⟨fun h1=>⟨?_,fun _=>trivial⟩,fun h1=>⟨?_,fun _=>trivial⟩⟩⟩
  ·rw [hR,hall,decide_eq_true (show err=0 by omega)];rfl
  ·rw [hR,hall,decide_eq_false (show ¬ err=0 by omega)];rfl
def c24 (f:Fld):Prop:=(f.num=1/\f.kind=2)\/(f.num=2/\f.kind=0)\/(f.num=3/\f.kind=0)\/(f.num=4/\f.kind=0)\/(f.num=5/\f.kind=2)\/(f.num=6/\f.kind=2/\b7Q f.byt=true)
instance (f:Fld):Decidable (c24 f):=by unfold c24;infer_instance
end Go.Proofs.YtbipjlehhlkghaaGreatDoor.Am
