/- Texts laid together: MoneyAdd, PLoop, Bl, PMap, SortF, AccOrd, PVar. No conditions. -/
import Derived.Test.YtbipjlehhlkghaaGreatDoorKD
import Derived.Test.YtbipjlehhlkghaaGreatDoorProg
import Derived.Test.YtbipjlehhlkghaaGreatDoorQAA
import Derived.Shelf.Spec.BitsCarry
import Derived.Shelf.SlSortCmp.NoneTotal
import Derived.Laws.BitsAllLaws
import Derived.Laws.Bits64
namespace Go.Proofs.YtbipjlehhlkghaaGreatDoor.Am
open Go Go.Proofs Go.RowKit
theorem c74 (x y:Int) (hx:0<=x) (hy:0<=y) (w:World):(callFunc 147 #[.int .u64 x,.int .u64 y,.int .u64 0]).run Tryz.prog w =
  .ok (.value (.tuple #[.int .u64 ((x + y + 0) % 18446744073709551616),.int .u64 ((x + y + 0) / 18446744073709551616)])) w:=by
 rw [run_callFunc_extern Tryz.func147 (by kernel_rfl) (by kernel_rfl) (by kernel_rfl) (e:=add64Entry) (by kernel_rfl),run_add64 x y 0 hx hy (by omega) (by omega)]
 rfl
theorem b8r (n:Int) (b:Bool) (w:World):Calls Tryz.prog 136 #[.int .u64 n,.bool b] w fun e w'=>e= .returned (.tuple #[.int .u64 (if b then n else 0),.bool b])/\w'=w:=by
 cases b
 ·go_enter Tryz.func136,Tryz.ntmps136
  go_wp2
  go_ret2
  exact⟨rfl,rfl⟩
 ·go_enter Tryz.func136,Tryz.ntmps136
  go_wp2
  go_ret2
  exact⟨rfl,rfl⟩
def a3q (a0 a1:Int):Option (Int × Bool):=chk (decide (0<=a0/\0<=a1)) (some (if decide (a0 + a1 < 18446744073709551616) then a0 + a1 else 0,decide (a0 + a1 < 18446744073709551616)))
def a98:TFn:=⟨.cons (.c (.d (.int .u64))) (.cons (.c (.d (.int .u64))) .nil),.nil,.cons (.c (.d (.int .u64))) (.cons (.c (.d .bool)) .nil),Int × Bool,fun a=>a3q a.1 a.2.1,fun r=>((),(r.1,(r.2,()))),.none⟩
theorem c75 {x y:Int} (hx:0<=x) (hy:0<=y) (w:World):Calls Tryz.prog 132 #[.int .u64 x,.int .u64 y] w fun e w'=>e= .returned (.tuple #[.int .u64 (if decide (x + y < 18446744073709551616) then x + y else 0),.bool (decide (x + y < 18446744073709551616))])/\w'=w:=by
 have h:=c74 x y hx hy
 by_cases hs:x + y < 18446744073709551616
 ·have e1:(x + y + 0) % 18446744073709551616=x + y:=by omega
  have e2:(x + y + 0) / 18446744073709551616=0:=by omega
  rw [e1,e2] at h
  rw [decide_eq_true hs]
  go_enter Tryz.func132,Tryz.ntmps132
  go_wp2_with (first | (simp only) | (go_at_call 136;refine(b8r _ _ _).mono ?_;rintro e w' ⟨rfl,hw⟩;rw [hw]))
  go_ret2
  exact⟨rfl,rfl⟩
 ·have e2:((x + y) / 18446744073709551616 == 0)=false:=by simp;omega
  rw [decide_eq_false hs]
  go_enter Tryz.func132,Tryz.ntmps132
  go_wp2_with (first | (simp only) | (go_at_call 136;refine(b8r _ _ _).mono ?_;rintro e w' ⟨rfl,hw⟩;rw [hw]))
  go_ret2
  exact⟨rfl,rfl⟩
theorem c0V:FnT Tryz.prog 132 a98:=
 ⟨rfl,rfl,⟨trivial,⟨_,Tryz.func132,rfl,rfl⟩,fun w I F args xs hIn hgl hargs hF hp=>by
  obtain⟨a,r,rfl,hr⟩:=hp
  obtain⟨a0,a1,u⟩:=a
  change Int at a0
  change Int at a1
  obtain⟨r0,r1⟩:=r
  change Int at r0
  change Bool at r1
  have hr':a3q a0 a1=some (r0,r1):=hr
  unfold a3q at hr'
  obtain⟨hc,hr'⟩:=a3O hr'
  have hc:=of_decide_eq_true hc
  injection hr' with hr'
  replace hargs:OAs I w [.c (.d (.v (.int .u64 a0))),.c (.d (.v (.int .u64 a1)))] args.toList F:=hargs
  simp only [OAs,OAr,OCr,DVr] at hargs
  obtain⟨x,q1,F1,F2,e1,⟨rfl,rfl,_⟩,⟨y,q2,F3,F4,rfl,⟨rfl,rfl,_⟩,⟨rfl,rfl⟩,rfl⟩,rfl⟩:=hargs
  have ha:args= #[.int .u64 a0,.int .u64 a1]:=by
   cases args;simp only at e1;subst e1;rfl
  subst ha
  refine Calls.mono (c75 hc.1 hc.2 w) fun e w' h=>?_
  obtain⟨rfl,rfl⟩:=h
  refine⟨I,[.int .u64 r0,.bool r1],[],[],by injection hr' with h1 h2;subst h1;subst h2;rfl,?_⟩
  refine⟨⟨rfl,rfl,rfl,Nat.le_refl _,fun _ _ _=>rfl⟩,fun _ _ h=>h,a7T.refl _ _,fun _ _ h=> .inl h,hIn,?_,?_,by simp,by simp⟩
  ·rw [TFn.post_of rfl hr]
   exact⟨rfl,rfl⟩
  ·have e1:(a98.spec.res (a98.args.oas (a0,a1,u)))=[.c (.d (.v (.int .u64 r0))),.c (.d (.v (.bool r1)))]:=by
    rw [TFn.res_of rfl hr];rfl
   rw [e1]
   simp only [OAs,OAr,OCr,DVr]
   exact⟨_,_,[],[],rfl,⟨rfl,rfl,rfl⟩,⟨_,_,[],[],rfl,⟨rfl,rfl,rfl⟩,⟨rfl,rfl⟩,rfl⟩,rfl⟩⟩⟩
end Go.Proofs.YtbipjlehhlkghaaGreatDoor.Am
namespace Go.Proofs.YtbipjlehhlkghaaGreatDoor.Am
open Go
theorem Q7 {S R:Type} {G:S->Option (S ⊕ R)} {p:R->Prop} (inv:Nat->S->Prop) (step:∀ n x,inv n x->Ok (G x) (Nxt p fun z=>∃ m,m < n/\inv m z)) :
  ∀ {n:Nat} {x:S},inv n x->n < 1180591620717411303424->Ok (I2 G x) p:=by
 have key:∀ (f n:Nat) (x:S),inv n x->n < f->Ok (a1E f G x) p:=by
  intro f
  induction f with
  | zero=>intro n x _ h;omega
  | succ f ih=>
   intro n x hi hm
   obtain⟨y,hy,h⟩:=step n x hi
   unfold a1E
   rw [hy]
   cases y with
   | inl z=>
    obtain⟨m,h1,h2⟩:=h
    exact ih m z h2 (by omega)
   | inr r=>exact⟨r,rfl,h⟩
 intro n x hi hm
 unfold I2
 rw [b60]
 exact key _ n x hi hm
theorem E7 {α β S R:Type} {G:S->Option (S ⊕ R)} {p:R->Prop} (l:List α) (st:Nat->β->S) (inv:Nat->β->Prop)
  (step:∀ i b,(h:i < l.length)->inv i b->Ok (G (st i b)) (Nxt p fun z=>∃ b',z=st (i + 1) b'/\inv (i + 1) b'))
  (stop:∀ b,inv l.length b->Ok (G (st l.length b)) (Nxt p fun _=>False)) {b0:β} (h0:inv 0 b0) (hl:l.length < 1180591620717411303424):Ok (I2 G (st 0 b0)) p:=by
 refine Q7 (fun n x=>∃ i b,i + n=l.length/\x=st i b/\inv i b) ?_ ⟨0,b0,by omega,rfl,h0⟩ hl
 rintro n x ⟨i,b,hn,rfl,hi⟩
 by_cases h:i < l.length
 ·refine(step i b h hi).mono fun r hr=>?_
  cases r with
  | inl z=>
   obtain⟨b',h1,h2⟩:=hr
   exact⟨n - 1,by omega,i + 1,b',by omega,h1,h2⟩
  | inr r=>exact hr
 ·have e:i=l.length:=by omega
  subst e
  refine(stop b hi).mono fun r hr=>?_
  cases r with
  | inl z=>exact hr.elim
  | inr r=>exact hr
theorem E4 {α:Type} (x y:Option α):sel true x y=x:=rfl
theorem C6 {α:Type} (x y:Option α):sel false x y=y:=rfl
theorem C4 {α:Type} (x:Option α):chk true x=x:=rfl
theorem D8 {α:Type} {l:List α} {i:Nat} (h:i < l.length) (d:α):l.getD i d=l[i]:=by
 rw [List.getD_eq_getElem?_getD,List.getElem?_eq_getElem h];rfl
theorem N0 {α:Type} {l:List α} {i:Nat} (h:i < l.length):l.take (i + 1)=l.take i ++ [l[i]]:=List.take_succ_eq_append_getElem h
theorem E2 {i:Nat} (h:i < 9223372036854775807):A5 ((i:Int) + 1)=((i + 1:Nat):Int):=by
 rw [E0] <;> omega
end Go.Proofs.YtbipjlehhlkghaaGreatDoor.Am
namespace Go.Proofs.YtbipjlehhlkghaaGreatDoor.Am
open Go
theorem a2R:∀ (x:List UInt8),Op.bytesLess x x=false
 | []=>rfl
 | a :: x=>by rw [Op.bytesLess,a2R x];simp
theorem c2Q (a b:UInt8) (x y:List UInt8):Op.bytesLess (a :: x) (b :: y)=true ↔ a.toNat < b.toNat\/(a.toNat=b.toNat/\Op.bytesLess x y=true):=by
 rw [Op.bytesLess]
 simp only [Bool.or_eq_true,Bool.and_eq_true,decide_eq_true_eq,beq_iff_eq]
 rw [UInt8.lt_iff_toNat_lt,<-UInt8.toNat_inj]
theorem b0n:∀ {x y z:List UInt8},Op.bytesLess x y=true->Op.bytesLess y z=true->Op.bytesLess x z=true
 | x,[],z,h,_=>by cases x <;> cases h
 | x,_ :: _,[],_,h=>by cases h
 | [],_ :: _,_ :: _,_,_=>rfl
 | a :: x,b :: y,c :: z,h,k=>by
  rw [c2Q] at h k ⊢
  rcases h with h | ⟨h1,h2⟩ <;> rcases k with k | ⟨k1,k2⟩
  ·left;omega
  ·left;omega
  ·left;omega
  ·right;exact⟨by omega,b0n h2 k2⟩
theorem b5B:∀ (x y:List UInt8),Op.bytesLess x y=true\/x=y\/Op.bytesLess y x=true
 | [],[]=> .inr (.inl rfl)
 | [],_ :: _=> .inl rfl
 | _ :: _,[]=> .inr (.inr rfl)
 | a :: x,b :: y=>by
  rw [c2Q,c2Q]
  rcases Nat.lt_trichotomy a.toNat b.toNat with h | h | h
  ·exact .inl (.inl h)
  ·rcases b5B x y with k | k | k
   ·exact .inl (.inr ⟨h,k⟩)
   ·exact .inr (.inl (by rw [UInt8.toNat_inj.1 h,k]))
   ·exact .inr (.inr (.inr ⟨h.symm,k⟩))
  ·exact .inr (.inr (.inl h))
theorem b59 {x y:List UInt8} (h:Op.bytesLess x y=true):Op.bytesLess y x=false:=by
 cases k:Op.bytesLess y x with
 | false=>rfl
 | true=>rw [b0n h k |>.symm,a2R]
def d0x (x y:List UInt8):Int:=if Op.bytesLess x y=true then -1 else if Op.bytesLess y x=true then 1 else 0
theorem b6a (x y:List UInt8):d0x x y < 0 ↔ Op.bytesLess x y=true:=by unfold d0x;split <;> (try split) <;> simp_all
theorem c8b (x y:List UInt8):d0x x y=0 ↔ x=y:=by
 unfold d0x
 split
 ·rename_i h
  constructor
  ·intro e;cases e
  ·intro e;subst e;rw [a2R] at h;cases h
 ·split
  ·rename_i h
   constructor
   ·intro e;cases e
   ·intro e;subst e;rw [a2R] at h;cases h
  ·rename_i h k
   refine⟨fun _=>?_,fun _=>rfl⟩
   rcases b5B x y with e | e | e
   ·exact absurd e h
   ·exact e
   ·exact absurd e k
end Go.Proofs.YtbipjlehhlkghaaGreatDoor.Am
namespace Go.Proofs.YtbipjlehhlkghaaGreatDoor.Am
open Go
def c8d {α:Type} (eq:α->α->Bool):Prop:=∀ a b,eq a b=true ↔ a=b
theorem b9H:c8d b5K:=fun a b=>by simp [b5K]
section
variable {α β:Type} {eq:α->α->Bool}
theorem c2S (p:α × β) (l:List (α × β)):b1b (p :: l)=p.1 :: b1b l:=rfl
theorem b3r (he:c8d eq) (k:α):∀ l:List (α × β),(b7w eq k l).isSome=true ↔ k ∈ b1b l
 | []=>by simp [b7w,b1b]
 | p :: l=>by
  rw [c2S,List.mem_cons,<-b3r he k l,<-he]
  show(if eq k p.1=true then some 0 else(b7w eq k l).map (· + 1)).isSome=true ↔ _
  by_cases h:eq k p.1=true <;> simp [h]
theorem c8e (he:c8d eq) {k:α} {l:List (α × β)} (h:k ∉ b1b l):b7w eq k l=none:=by
 cases hm:b7w eq k l with
 | none=>rfl
 | some i=>exact(h ((b3r he k l).1 (by rw [hm];rfl))).elim
theorem d0z (he:c8d eq) {k:α} {v:β} {l:List (α × β)} (h:k ∉ b1b l):c6f eq k v l=l ++ [(k,v)]:=by
 unfold c6f;rw [c8e he h]
end
end Go.Proofs.YtbipjlehhlkghaaGreatDoor.Am
namespace Go.Proofs.YtbipjlehhlkghaaGreatDoor.Am
open Go Go.Shelf Go.Proofs Go.RowKit
def d6n {α:Type} (d0:α) (cf:α->α->Int) (l:List α):List α:=
 haveI:Inhabited α:=⟨d0⟩
 (Sort.pdq (ltOf cf) l.toArray 0 l.length (Lib.bitLen l.length) true true).toList
theorem c09 {α:Type} (d0:α) (cf:α->α->Int) (hO:haveI:Inhabited α:=⟨d0⟩;Sort.SWO (ltOf cf)) (l:List α):(d6n d0 cf l).Perm l/\(d6n d0 cf l).Pairwise fun x y=>ltOf cf y x=false:=by
 letI:Inhabited α:=⟨d0⟩
 have h:=Sort.pdq_sorts (ltOf cf) hO l.toArray 0 l.toArray.size (Lib.bitLen l.length) true true (Nat.zero_le _) (Nat.le_refl _) (Or.inl rfl)
 obtain⟨⟨h1,h2,h3⟩,h4⟩:=h
 have e1:l.toArray.size=l.length:=List.size_toArray
 have hs:d6n d0 cf l=(Sort.pdq (ltOf cf) l.toArray 0 l.toArray.size (Lib.bitLen l.length) true true).toList:=by rw [e1];rfl
 rw [hs]
 generalize Sort.pdq (ltOf cf) l.toArray 0 l.toArray.size (Lib.bitLen l.length) true true=d at h1 h2 h3 h4
 constructor
 ·have e2:d.extract 0 l.toArray.size=d:=by rw [<-h1,Array.extract_size]
  rw [e2,Array.extract_size] at h3
  exact h3
 ·rw [List.pairwise_iff_getElem]
  intro i j hi hj hij
  have hj':j < d.size:=by simpa using hj
  have hi':i < d.size:=by simpa using hi
  have:=h4 i j (Nat.zero_le _) hij (by rw [<-h1];exact hj')
  rwa [getElem!_pos d j hj',getElem!_pos d i hi'] at this
end Go.Proofs.YtbipjlehhlkghaaGreatDoor.Am
namespace Go.Proofs.YtbipjlehhlkghaaGreatDoor.Am
open Go Go.Shelf Go.Proofs Go.RowKit
def c5H (a b:List UInt8 × Int × Int):Int:=d0x a.1 b.1
theorem d0B (a b:List UInt8 × Int × Int):ltOf c5H a b=Op.bytesLess a.1 b.1:=by
 unfold ltOf c5H
 cases h:Op.bytesLess a.1 b.1 with
 | true=>exact decide_eq_true ((b6a _ _).2 h)
 | false=>exact decide_eq_false fun k=>by rw [b6a,h] at k;cases k
theorem d14:Sort.SWO (ltOf c5H):=by
 refine⟨fun x=>?_,fun x y z h k=>?_,fun x y z h k=>?_⟩
 ·rw [d0B,a2R]
 ·rw [d0B] at h k ⊢;exact b0n h k
 ·rw [d0B] at h k ⊢
  rcases b5B y.1 x.1 with e | e | e
  ·rcases b5B z.1 y.1 with f | f | f
   ·exact b59 (b0n f e)
   ·rw [f];exact b59 e
   ·rw [f] at k;cases k
  ·rw [<-e];exact k
  ·rw [e] at h;cases h
end Go.Proofs.YtbipjlehhlkghaaGreatDoor.Am
namespace Go.Proofs.YtbipjlehhlkghaaGreatDoor.Am
open Go
def U64:Nat:=18446744073709551616
def d3q:Nat->Nat->List UInt8
 | 0,_=>[]
 | k + 1,n=>if n < 128 then [UInt8.ofNat n] else UInt8.ofNat (n % 128 + 128) :: d3q k (n / 128)
def enc (n:Nat):List UInt8:=d3q (n + 1) n
theorem c1e:∀ (k j n:Nat),n < k->n < j->d3q k n=d3q j n
 | 0,_,_,h,_=>by omega
 | _,0,_,_,h=>by omega
 | k + 1,j + 1,n,h,h'=>by
  simp only [d3q]
  by_cases h1:n < 128
  ·rw [if_pos h1,if_pos h1]
  ·rw [if_neg h1,if_neg h1,c1e k j (n / 128) (by omega) (by omega)]
theorem d7f (m:Nat):bits .or .u8 ((m:Int) % 256) 128=((UInt8.ofNat (m % 128 + 128)).toNat:Int):=by
 have h:∀ x:Fin 256,bits .or .u8 ((x.val:Nat):Int) 128=((x.val % 128 + 128:Nat):Int):=by decide +kernel
 have:=h ⟨m % 256,by omega⟩
 have e:((m:Int) % 256)=((m % 256:Nat):Int):=by omega
 rw [e,this]
 have e2:m % 256 % 128=m % 128:=by omega
 rw [UInt8.toNat_ofNat']
 simp only [e2]
 omega
theorem c1f (n:Nat) (h:128<=n):enc n=UInt8.ofNat (n % 128 + 128) :: enc (n / 128):=by
 rw [enc,d3q,if_neg (by omega),enc,c1e n (n / 128 + 1) (n / 128) (by omega) (by omega)]
theorem c1g (n:Nat) (h:n < 128):enc n=[UInt8.ofNat n]:=by rw [enc,d3q,if_pos h]
theorem enc_len:∀ (k n:Nat),0 < k->n < 128 ^ k->(enc n).length<=k:=by
 intro k
 induction k with
 | zero=>intro n h;omega
 | succ k ih=>
  intro n _ h
  by_cases h1:n < 128
  ·rw [c1g n h1];simp
  ·rw [c1f n (by omega),List.length_cons]
   have:n / 128 < 128 ^ k:=by rw [Nat.pow_succ] at h;omega
   have hk:0 < k:=by
    rcases Nat.eq_zero_or_pos k with h0 | h0
    ·subst h0;simp at this;omega
    ·exact h0
   have:=ih (n / 128) hk this
   omega
theorem a6U (n:Nat) (h:n < U64):(enc n).length<=10:=enc_len 10 n (by omega) (by unfold U64 at h;omega)
def rdF:Nat->Nat->List UInt8->Nat × Nat × Nat
 | _,_,[]=>(0,0,5)
 | i,n,x :: r=>if i=9/\1 < x.toNat then(0,0,6) else if 0 < i/\x.toNat=0 then(0,0,4) else
  if x.toNat < 128 then(n + x.toNat % 128 * 128 ^ i,i + 1,0) else rdF (i + 1) (n + x.toNat % 128 * 128 ^ i) r
def rd (l:List UInt8):Nat × Nat × Nat:=rdF 0 0 l
theorem c8o (k:Nat):2 ^ (7 * k)=128 ^ k:=by rw [Nat.pow_mul]
theorem c1h (k:Nat) (hk:k<=9):128 ^ k<=9223372036854775808:=by
 have:=Nat.pow_le_pow_right (n:=128) (by omega) hk
 exact Nat.le_trans this (by decide)
theorem c8p (y k:Nat) (hk:k<=9) (h9:k=9->y<=1):y % 128 * 128 ^ k<=9223372036854775808:=by
 by_cases h:k=9
 ·subst h
  have:=h9 rfl
  have h2:y % 128<=1:=by omega
  calc y % 128 * 128 ^ 9<=1 * 128 ^ 9:=Nat.mul_le_mul_right _ h2
   _<=_:=by decide
 ·have h1:128 ^ k<=128 ^ 8:=Nat.pow_le_pow_right (by omega) (by omega)
  calc y % 128 * 128 ^ k<=128 * 128 ^ 8:=Nat.mul_le_mul (by omega) h1
   _<=_:=by decide
theorem d3r (m y k:Nat) (hm:m < 128 ^ k) (hk:k<=9) (hy:y < 256) (h9:k=9->y<=1) :
  bits .or .u64 (m:Int) (IntKind.u64.wrap (IntKind.u64.wrap (bits .and .u8 (y:Int) 127) * 2 ^ (7 * k)))=((m + y % 128 * 128 ^ k:Nat):Int):=by
 have h1:=c8p y k hk h9
 have h2:=c1h k hk
 have e1:bits .and .u8 (y:Int) 127=((y % 128:Nat):Int):=by
  have:=u8_and_nat y 127 hy (by omega)
  rw [nat_mask7] at this
  exact this
 rw [e1,IntKind.wrap_u64,IntKind.wrap_u64]
 have e2:((y % 128:Nat):Int) % 18446744073709551616=((y % 128:Nat):Int):=by omega
 rw [e2]
 have e3:((y % 128:Nat):Int) * 2 ^ (7 * k)=((y % 128 * 128 ^ k:Nat):Int):=by
  rw [<-c8o];simp
 rw [e3]
 have e4:((y % 128 * 128 ^ k:Nat):Int) % 18446744073709551616=((y % 128 * 128 ^ k:Nat):Int):=by
  generalize y % 128 * 128 ^ k=q at *
  omega
 rw [e4,u64_or_nat m _ (by omega) (by omega),Nat.or_comm,nat_join (7 * k) _ _ (by rw [c8o];exact Nat.mul_mod_left _ _) (by rw [c8o];exact hm),Nat.add_comm]
theorem d5O (m:Nat):(UInt8.ofNat (m % 128 + 128)).toNat=m % 128 + 128:=by rw [UInt8.toNat_ofNat'];omega
theorem d0I (m:Nat) (h:m < 128):(UInt8.ofNat m).toNat=m:=by rw [UInt8.toNat_ofNat'];omega
theorem d17 (m p:Nat):m % 128 * p + m / 128 * (p * 128)=m * p:=by
 have h:m=128 * (m / 128) + m % 128:=by omega
 have:m / 128 * (p * 128)=128 * (m / 128) * p:=by rw [Nat.mul_comm p 128,<-Nat.mul_assoc,Nat.mul_comm (m / 128) 128]
 rw [this,<-Nat.add_mul,Nat.add_comm]
 conv=>rhs;rw [h]
theorem d74 (m:Nat) (h:m * 128 ^ 9 < U64):m<=1:=by
 have:(128:Nat) ^ 9=9223372036854775808:=by decide
 rw [this] at h;unfold U64 at h;omega
theorem c8q (t:List UInt8):∀ (k m i n:Nat),m < k->i<=9->(i=0\/0 < m)->m * 128 ^ i < U64->rdF i n (enc m ++ t)=(n + m * 128 ^ i,i + (enc m).length,0)
 | 0,_,_,_,h,_,_,_=>by omega
 | k + 1,m,i,n,hk,hi,h0,hb=>by
  by_cases h1:m < 128
  ·rw [c1g m h1,List.singleton_append,rdF,d0I m h1]
   have h9:¬ (i=9/\1 < m):=by rintro⟨rfl,h⟩;have:=d74 m hb;omega
   rw [if_neg h9,if_neg (by omega),if_pos h1,Nat.mod_eq_of_lt h1]
   rfl
  ·rw [c1f m (by omega),List.cons_append,rdF,d5O]
   have hi9:i ≠ 9:=by rintro rfl;have:=d74 m hb;omega
   rw [if_neg (by omega),if_neg (by omega),if_neg (by omega)]
   have e:(m % 128 + 128) % 128=m % 128:=by omega
   have hd:=d17 m (128 ^ i)
   rw [e,c8q t k (m / 128) (i + 1) _ (by omega) (by omega) (by omega) (by rw [Nat.pow_succ];omega),Nat.pow_succ,List.length_cons,Nat.add_assoc,hd,Nat.add_assoc,Nat.add_comm 1]
theorem c4p (n:Nat) (t:List UInt8) (h:n < U64):rd (enc n ++ t)=(n,(enc n).length,0):=by
 rw [rd,c8q t (n + 1) n 0 0 (by omega) (by omega) (.inl rfl) (by simpa using h)];simp
theorem c8r:∀ (l:List UInt8) (i n:Nat),i<=9->n < 128 ^ i->((rdF i n l).2.2 ≠ 0->rdF i n l=(0,0,(rdF i n l).2.2))/\
  ((rdF i n l).2.2=0->∃ m k,rdF i n l=(n + m * 128 ^ i,i + k,0)/\1<=k/\k<=l.length/\enc m=l.take k/\(i=0\/0 < m)/\n + m * 128 ^ i < U64)
 | [],i,n,_,_=>by simp [rdF]
 | x :: r,i,n,hi,hn=>by
  rw [rdF]
  by_cases h1:i=9/\1 < x.toNat
  ·rw [if_pos h1];simp
  rw [if_neg h1]
  by_cases h2:0 < i/\x.toNat=0
  ·rw [if_pos h2];simp
  rw [if_neg h2]
  have hpart:=c8p x.toNat i hi (by omega)
  have hpow:=c1h i hi
  by_cases h3:x.toNat < 128
  ·rw [if_pos h3]
   refine⟨fun h=>absurd rfl h,fun _=>⟨x.toNat,1,by rw [Nat.mod_eq_of_lt h3],by omega,by simp,?_,by omega,?_⟩⟩
   ·rw [c1g _ h3];simp
   ·rw [Nat.mod_eq_of_lt h3] at hpart;unfold U64;omega
  ·rw [if_neg h3]
   have hx:=x.toNat_lt
   have hlt:n + x.toNat % 128 * 128 ^ i < 128 ^ (i + 1):=by
    have h2:x.toNat % 128 * 128 ^ i<=127 * 128 ^ i:=Nat.mul_le_mul_right _ (by omega)
    rw [Nat.pow_succ];omega
   have ih:=c8r r (i + 1) (n + x.toNat % 128 * 128 ^ i) (by omega) hlt
   refine⟨ih.1,fun h=>?_⟩
   obtain⟨m,k,h4,h5,h6,h7,h8,h9⟩:=ih.2 h
   have hm:0 < m:=by omega
   have e1:(m * 128 + x.toNat % 128) % 128=x.toNat % 128:=by omega
   have e2:(m * 128 + x.toNat % 128) / 128=m:=by omega
   have hd:=d17 (m * 128 + x.toNat % 128) (128 ^ i)
   rw [e1,e2] at hd
   rw [Nat.pow_succ,Nat.add_assoc,hd] at h4 h9
   refine⟨m * 128 + x.toNat % 128,k + 1,by rw [h4];congr 2;omega,by omega,by simp;omega,?_,by omega,h9⟩
   rw [c1f _ (by omega),e1,e2,h7,List.take_succ_cons]
   congr 1
   apply UInt8.toNat_inj.1
   rw [UInt8.toNat_ofNat'];omega
theorem c1i (l:List UInt8):((rd l).2.2 ≠ 0->rd l=(0,0,(rd l).2.2))/\
  ((rd l).2.2=0->1<=(rd l).2.1/\(rd l).2.1<=l.length/\enc (rd l).1=l.take (rd l).2.1/\(rd l).1 < U64):=by
 have h:=c8r l 0 0 (by omega) (by simp)
 refine⟨h.1,fun h0=>?_⟩
 obtain⟨m,k,h1,h2,h3,h4,_,h6⟩:=h.2 h0
 have e:rd l=(m,k,0):=by rw [rd,h1];simp
 rw [e]
 exact⟨h2,h3,h4,by simpa using h6⟩
theorem c5L (l:List UInt8):(rd l).1 < U64/\(rd l).2.1<=l.length/\(rd l).2.2 < 7:=by
 by_cases h:(rd l).2.2=0
 ·obtain⟨_,h2,_,h4⟩:=(c1i l).2 h
  exact⟨h4,h2,by omega⟩
 ·have e:=(c1i l).1 h
  have h7:∀ (l:List UInt8) (i n:Nat),(rdF i n l).2.2 < 7:=by
   intro l
   induction l with
   | nil=>intro i n;simp [rdF]
   | cons x r ih=>intro i n;rw [rdF];split <;> (try split) <;> (try split) <;> first | (simp;done) | exact ih _ _
  have h8:=h7 l 0 0
  refine⟨by rw [e];unfold U64;simp,by rw [e];simp,h8⟩
end Go.Proofs.YtbipjlehhlkghaaGreatDoor.Am
