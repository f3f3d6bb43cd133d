/- Texts laid together: PShaB, PShaM. No conditions. -/
import Derived.Test.YtbipjlehhlkghaaGreatDoorFAll
import Derived.Test.YtbipjlehhlkghaaGreatDoorQAE
namespace Go.Proofs.YtbipjlehhlkghaaGreatDoor.Am
open Go
theorem c1A {S S' R R':Type} {G1:S->Option (S ⊕ R)} {G2:S'->Option (S' ⊕ R')} (f:S->S') (K:R->Option R') (inv:S->Prop)
  (h:∀ x,inv x->G2 (f x)=(G1 x).bind (fun z=>match z with | .inl y=>some (.inl (f y)) | .inr r=>(K r).map .inr)/\∀ y,G1 x=some (.inl y)->inv y):∀ {x:S},inv x->I2 G2 (f x)=(I2 G1 x).bind K:=by
 have key:∀ (n:Nat) (x:S),inv x->a1E n G2 (f x)=(a1E n G1 x).bind K:=by
  intro n
  induction n with
  | zero=>intro x _;rfl
  | succ n ih=>
   intro x hx
   obtain⟨h1,h2⟩:=h x hx
   unfold a1E
   rw [h1]
   cases hg:G1 x with
   | none=>rfl
   | some y=>
    cases y with
    | inl z=>exact ih z (h2 z hg)
    | inr r=>
     rw [Option.bind_some,Option.bind_some]
     dsimp only
     cases K r <;> rfl
 intro x hx
 exact key _ x hx
theorem c1B (k:IntKind) (a b:Int):bits .or k a b=bits .or k b a:=by
 unfold bits
 simp only [BitVec.or_comm]
def b7V (x:Int) (n:Nat):Int:=bits .or .u32 (T6 (x * 2 ^ (32 - n))) (x / 2 ^ n)
theorem a6X (x:Int):J3 x 2=some (b7V x 2)/\J3 x 6=some (b7V x 6)/\J3 x 7=some (b7V x 7)/\J3 x 11=some (b7V x 11)/\J3 x 13=some (b7V x 13)/\J3 x 17=some (b7V x 17)/\J3 x 18=some (b7V x 18)/\J3 x 19=some (b7V x 19)/\J3 x 22=some (b7V x 22)/\J3 x 25=some (b7V x 25):=by
 refine⟨?_,?_,?_,?_,?_,?_,?_,?_,?_,?_⟩ <;> kernel_rfl
theorem b6j (x:Int):C5 x 2=some (b7V x 2)/\C5 x 6=some (b7V x 6)/\C5 x 7=some (b7V x 7)/\C5 x 11=some (b7V x 11)/\C5 x 13=some (b7V x 13)/\C5 x 17=some (b7V x 17)/\C5 x 18=some (b7V x 18)/\C5 x 19=some (b7V x 19)/\C5 x 22=some (b7V x 22)/\C5 x 25=some (b7V x 25):=by
 have h:∀ n:Nat,n<=32->bits .or .u32 (x / 2 ^ n) (T6 (x * 2 ^ (32 - n)))=b7V x n:=fun n _=>c1B _ _ _
 refine⟨(show _=some (bits .or .u32 (x / 2 ^ 2) (T6 (x * 2 ^ 30))) by kernel_rfl).trans (congrArg some (h 2 (by decide))),(show _=some (bits .or .u32 (x / 2 ^ 6) (T6 (x * 2 ^ 26))) by kernel_rfl).trans (congrArg some (h 6 (by decide))),(show _=some (bits .or .u32 (x / 2 ^ 7) (T6 (x * 2 ^ 25))) by kernel_rfl).trans (congrArg some (h 7 (by decide))),(show _=some (bits .or .u32 (x / 2 ^ 11) (T6 (x * 2 ^ 21))) by kernel_rfl).trans (congrArg some (h 11 (by decide))),(show _=some (bits .or .u32 (x / 2 ^ 13) (T6 (x * 2 ^ 19))) by kernel_rfl).trans (congrArg some (h 13 (by decide))),(show _=some (bits .or .u32 (x / 2 ^ 17) (T6 (x * 2 ^ 15))) by kernel_rfl).trans (congrArg some (h 17 (by decide))),(show _=some (bits .or .u32 (x / 2 ^ 18) (T6 (x * 2 ^ 14))) by kernel_rfl).trans (congrArg some (h 18 (by decide))),(show _=some (bits .or .u32 (x / 2 ^ 19) (T6 (x * 2 ^ 13))) by kernel_rfl).trans (congrArg some (h 19 (by decide))),(show _=some (bits .or .u32 (x / 2 ^ 22) (T6 (x * 2 ^ 10))) by kernel_rfl).trans (congrArg some (h 22 (by decide))),(show _=some (bits .or .u32 (x / 2 ^ 25) (T6 (x * 2 ^ 7))) by kernel_rfl).trans (congrArg some (h 25 (by decide)))⟩
theorem c53 (x a m:Int):T6 (T6 (x + a) + m)=T6 (x + T6 (a + m)):=by
 unfold T6
 rw [IntKind.wrap_u32,IntKind.wrap_u32,IntKind.wrap_u32,IntKind.wrap_u32]
 omega
theorem c4N {α β:Type} (b:Bool) (x:Option α) (f:α->Option β):(chk b x).bind f=chk b (x.bind f):=by cases b <;> rfl
theorem c4O {α β:Type} (b:Bool) (x y:Option α) (f:α->Option β):(sel b x y).bind f=sel b (x.bind f) (y.bind f):=by cases b <;> rfl
theorem d54 (i:Int) (a z s:Vector Int 8):a2y i a z s=U7 i a z s:=by
 have:a26=a1M:=by kernel_rfl
 unfold a2y U7
 rw [this]
theorem c8T (i:Int) (a z:Vector Int 8) (w k:Vector Int 64) (s:Vector Int 8):a0f i a z w k s=P0 i a z w k s:=by
 have:a0T=Y6:=by
  funext i a z w k s
  unfold a0T Y6 a27 a1N
  obtain⟨r2,r6,_,r11,r13,_,_,_,r22,r25⟩:=a6X (E8 s 4 (0:Int))
  obtain⟨t2,t6,_,t11,t13,_,_,_,t22,t25⟩:=b6j (E8 s 4 (0:Int))
  obtain⟨p2,p6,_,p11,p13,_,_,_,p22,p25⟩:=a6X (E8 s 0 (0:Int))
  obtain⟨q2,q6,_,q11,q13,_,_,_,q22,q25⟩:=b6j (E8 s 0 (0:Int))
  rw [r6,r11,r25,t6,t11,t25,p2,p13,p22,q2,q13,q22]
  simp only [Option.bind_some,d54,c53]
 unfold a0f P0
 rw [this]
theorem c8U (a:Vector Int 8) (z:Vector Int 8) (zz:Vector Int 64) (i:Int) (w:Vector Int 64):a2z i a z w=(W2 i zz w).bind (S9 a z):=by
 unfold a2z W2
 refine c1A (G1:=fun v:Int × Vector Int 64 × Vector Int 64=>a17 v.1 v.2.1 v.2.2) (G2:=fun v:Int × Vector Int 8 × Vector Int 8 × Vector Int 64=>a0U v.1 v.2.1 v.2.2.1 v.2.2.2) (fun x=>(x.1,a,z,x.2.2)) _ (fun _=>True) (fun x _=>⟨?_,fun _ _=>trivial⟩) (x:=(i,zz,w)) trivial
 obtain⟨i,zz,w⟩:=x
 dsimp only
 unfold a0U a17
 obtain⟨_,_,r7,_,_,_,r18,_⟩:=a6X (E8 w (Int.toNat (A5 (i - 15))) (0:Int))
 obtain⟨_,_,t7,_,_,_,t18,_⟩:=b6j (E8 w (Int.toNat (A5 (i - 15))) (0:Int))
 obtain⟨_,_,_,_,_,p17,_,p19,_⟩:=a6X (E8 w (Int.toNat (A5 (i - 2))) (0:Int))
 obtain⟨_,_,_,_,_,q17,_,q19,_⟩:=b6j (E8 w (Int.toNat (A5 (i - 2))) (0:Int))
 rw [r7,r18,t7,t18,p17,p19,q17,q19]
 simp only [Option.bind_some,c4O,c4N]
theorem d1d (b:List UInt8) (a:Vector Int 8) (z:Vector Int 8) (zz:Vector Int 64) (i:Int) (w:Vector Int 64):a2A b i a z w=(W3 b i zz w).bind (S9 a z):=by
 unfold a2A W3
 refine c1A (G1:=fun v:List UInt8 × Int × Vector Int 64 × Vector Int 64=>a18 v.1 v.2.1 v.2.2.1 v.2.2.2) (G2:=fun v:List UInt8 × Int × Vector Int 8 × Vector Int 8 × Vector Int 64=>a0V v.1 v.2.1 v.2.2.1 v.2.2.2.1 v.2.2.2.2) (fun x=>(x.1,x.2.1,a,z,x.2.2.2)) _ (fun _=>True) (fun x _=>⟨?_,fun _ _=>trivial⟩) (x:=(b,i,zz,w)) trivial
 obtain⟨b,i,zz,w⟩:=x
 dsimp only
 unfold a0V a18 a28 a3W
 rw [c8U a z zz]
 simp only [Option.bind_some,c4O,c4N]
 congr 1
 cases W2 16 zz w with
 | none=>rfl
 | some r=>rfl
theorem c8V:a2x=a5g:=by kernel_rfl
theorem d7l (a z:Vector Int 8) (w:Vector Int 64):S9 a z w=Option.bind a5g fun k=>P0 0 a z w k a:=
 (congrArg (fun c=>Option.bind c fun r1=>a0f 0 a z w r1 a) c8V).trans (congrArg (Option.bind a5g) (funext fun k=>c8T 0 a z w k a))
theorem d1e (a:Vector Int 8) (b:List UInt8):a0A a b=M8 a b:=by
 unfold a0A M8 a6B
 rw [d1d b a _ (Vector.replicate 64 (0:Int))]
 exact congrArg (Option.bind (W3 b 0 (Vector.replicate 64 (0:Int)) (Vector.replicate 64 (0:Int)))) (funext fun w=>d7l a _ w)
end Go.Proofs.YtbipjlehhlkghaaGreatDoor.Am
namespace Go.Proofs.YtbipjlehhlkghaaGreatDoor.Am
open Go
abbrev H8:=Vector Int 8
theorem d2k {i:Nat} (h:i < 1000):A5 (4 * (i:Int))=((4 * i:Nat):Int):=by rw [E0] <;> omega
theorem b8H {i:Nat} {c:Int} (h:i < 1000000) (h0:0<=c) (h1:c<=1000000):A5 ((i:Int) + c)=((i + c.toNat:Nat):Int):=by rw [E0] <;> omega
theorem b90 {i:Nat} {c:Int} (h:i < 1000000) (h0:0<=c) (h1:c<=(i:Int)):A5 ((i:Int) - c)=((i - c.toNat:Nat):Int):=by rw [E0] <;> omega
theorem c8W (zz w:Vector Int 64) {i:Nat} (hi:16<=i) (hi2:i<=64):Ok (W2 (i:Int) zz w) fun _=>True:=by
 unfold W2
 refine Q7 (fun n v=>∃ (i:Nat) (w:Vector Int 64),v=((i:Int),zz,w)/\16<=i/\i<=64/\n=64 - i) ?_ (n:=64 - i) ⟨i,w,rfl,hi,hi2,rfl⟩ (by omega)
 rintro n v ⟨i,w,rfl,h1,h2,rfl⟩
 unfold a17
 dsimp only
 obtain⟨_,_,r7,_,_,_,r18,_⟩:=a6X (E8 w (Int.toNat (A5 ((i:Int) - 15))) (0:Int))
 obtain⟨_,_,_,_,_,p17,_,p19,_⟩:=a6X (E8 w (Int.toNat (A5 ((i:Int) - 2))) (0:Int))
 rw [r7,r18,p17,p19]
 simp only [C0,E5,A3,B4,B8,decide_eq_true_eq,decide_eq_false_iff_not,Int.toNat_natCast,Option.bind_some,E2 (i:=i) (by omega)]
 refine⟨fun h=>?_,fun _=>trivial⟩
 rw [b90 (i:=i) (c:=15) (by omega) (by omega) (by omega),b90 (i:=i) (c:=2) (by omega) (by omega) (by omega),b90 (i:=i) (c:=7) (by omega) (by omega) (by omega),b90 (i:=i) (c:=16) (by omega) (by omega) (by omega)]
 simp only [Int.toNat_natCast]
 exact⟨by omega,by omega,by omega,by omega,by omega,by omega,by omega,by omega,by omega,by omega,64 - (i + 1),by omega,i + 1,_,rfl,by omega,by omega,rfl⟩
theorem d1f {b:List UInt8} (hb:b.length=64) (zz w:Vector Int 64):Ok (W3 b 0 zz w) fun _=>True:=by
 unfold W3
 refine Q7 (fun n v=>∃ (i:Nat) (w:Vector Int 64),v=(b,(i:Int),zz,w)/\i<=16/\n=16 - i) ?_ (n:=16) ⟨0,w,rfl,by omega,rfl⟩ (by omega)
 rintro n v ⟨i,w,rfl,h2,rfl⟩
 unfold a18
 dsimp only
 rw [C0]
 refine⟨fun h=>?_,fun h=>?_⟩
 ·have h:=of_decide_eq_true h
  rw [d2k (i:=i) (by omega),b8H (i:=4 * i) (c:=1) (by omega) (by omega) (by omega),b8H (i:=4 * i) (c:=2) (by omega) (by omega) (by omega),b8H (i:=4 * i) (c:=3) (by omega) (by omega) (by omega)]
  simp only [E5,A3,B4,decide_eq_true_eq,Int.toNat_natCast,E2 (i:=i) (by omega)]
  rw [hb]
  exact⟨by omega,by omega,by omega,by omega,by omega,by omega,16 - (i + 1),by omega,i + 1,_,rfl,by omega,rfl⟩
 ·rw [D5]
  unfold a3W
  exact(c8W zz w (i:=16) (by omega) (by omega)).mono fun r _=>trivial
theorem d55 (a z s:H8):Ok (U7 0 a z s) fun _=>True:=by
 unfold U7
 refine Q7 (fun n v=>∃ (i:Nat) (a:H8),v=((i:Int),a,z,s)/\i<=8/\n=8 - i) ?_ (n:=8) ⟨0,a,rfl,by omega,rfl⟩ (by omega)
 rintro n v ⟨i,a,rfl,h2,rfl⟩
 unfold a1M
 dsimp only
 simp only [C0,E5,A3,B4,B8,decide_eq_true_eq,decide_eq_false_iff_not,Int.toNat_natCast,E2 (i:=i) (by omega)]
 exact⟨fun h=>⟨by omega,by omega,by omega,by omega,by omega,by omega,8 - (i + 1),by omega,i + 1,_,rfl,by omega,rfl⟩,fun _=>trivial⟩
theorem c8X (a z:H8) (w k:Vector Int 64) (s:H8):Ok (P0 0 a z w k s) fun _=>True:=by
 unfold P0
 refine Q7 (fun n v=>∃ (i:Nat) (s:H8),v=((i:Int),a,z,w,k,s)/\i<=64/\n=64 - i) ?_ (n:=64) ⟨0,s,rfl,by omega,rfl⟩ (by omega)
 rintro n v ⟨i,s,rfl,h2,rfl⟩
 unfold Y6
 dsimp only
 obtain⟨r2,r6,_,r11,r13,_,_,_,r22,r25⟩:=a6X (E8 s 4 (0:Int))
 obtain⟨p2,p6,_,p11,p13,_,_,_,p22,p25⟩:=a6X (E8 s 0 (0:Int))
 rw [r6,r11,r25,p2,p13,p22]
 rw [C0]
 refine⟨fun h=>?_,fun h=>?_⟩
 ·have h:=of_decide_eq_true h
  simp only [E5,A3,B4,decide_eq_true_eq,Int.toNat_natCast,Option.bind_some,E2 (i:=i) (by omega)]
  exact⟨by omega,by omega,by omega,by omega,64 - (i + 1),by omega,i + 1,_,rfl,by omega,rfl⟩
 ·rw [D5]
  unfold a1N
  exact(d55 a z s).mono fun r _=>trivial
theorem d1g (a:H8) {b:List UInt8} (hb:b.length=64):∃ r,M8 a b=some r:=by
 obtain⟨w,hw,_⟩:=d1f hb (Vector.replicate 64 (0:Int)) (Vector.replicate 64 (0:Int))
 have hk:∃ k,a5g=some k:=⟨_,rfl⟩
 obtain⟨k,hk⟩:=hk
 obtain⟨r,hr,_⟩:=c8X a (Vector.replicate 8 (0:Int)) w k a
 refine⟨r,?_⟩
 unfold M8 a6B
 rw [hw,Option.bind_some,hk,Option.bind_some,hr]
def blk (a:H8) (b:List UInt8):H8:=(M8 a b).getD a
theorem c8Y (a:H8) {b:List UInt8} (hb:b.length=64):M8 a b=some (blk a b):=by
 obtain⟨r,hr⟩:=d1g a hb
 unfold blk
 rw [hr];rfl
theorem d3N (a:H8) {b:List UInt8} (hb:b.length=64):a0A a b=some (blk a b):=(d1e a b).trans (c8Y a hb)
def b5F:Nat->H8->List UInt8->H8
 | 0,h,_=>h
 | n + 1,h,l=>b5F n (blk h (l.take 64)) (l.drop 64)
theorem b4z (r:Nat) (y:List UInt8):∀ (q:Nat) (h:H8) (x:List UInt8),x.length=64 * q->b5F (q + r) h (x ++ y)=b5F r (b5F q h x) y
 | 0,h,x,hx=>by
  have:x=[]:=List.eq_nil_of_length_eq_zero (by omega)
  subst this
  rw [Nat.zero_add];rfl
 | q + 1,h,x,hx=>by
  rw [show q + 1 + r=(q + r) + 1 by omega]
  show b5F (q + r) (blk h ((x ++ y).take 64)) ((x ++ y).drop 64)=b5F r (b5F q (blk h (x.take 64)) (x.drop 64)) y
  rw [List.take_append_of_le_length (by omega),List.drop_append_of_le_length (by omega)]
  exact b4z r y q _ _ (by rw [List.length_drop];omega)
def iv:H8:=Vector.push (Vector.push (Vector.push (Vector.push (Vector.push (Vector.push (Vector.push (Vector.push #v[] 1779033703) 3144134277) 1013904242) 2773480762) 1359893119) 2600822924) 528734635) 1541459225
abbrev DG:=Vector Int 8 × List UInt8 × Int
def Dig (d:DG) (m:List UInt8):Prop:=d=(b5F (m.length / 64) iv m,m.drop (64 * (m.length / 64)),((m.length:Nat):Int))
theorem c3b:∃ d,b1i=some d/\Dig d []:=⟨(iv,[],0),rfl,rfl⟩
theorem c54 {l:List UInt8} (hl:l.length<=140737488355328) (h:H8) (rest:List UInt8) (n:Int):a25 l (h,rest,n)=some (b5F (l.length / 64) h l,l.drop (64 * (l.length / 64)),n):=by
 rw [<-L4]
 unfold a25
 refine Q7 (fun k v=>∃ (t:List UInt8) (g:H8),v=(t,(g,rest,n))/\t.length<=140737488355328/\k=t.length / 64/\b5F (t.length / 64) g t=b5F (l.length / 64) h l/\t.drop (64 * (t.length / 64))=l.drop (64 * (l.length / 64))) ?_ (n:=l.length / 64) ⟨l,h,rfl,hl,rfl,rfl,rfl⟩ (by omega)
 rintro k v ⟨t,g,rfl,ht,rfl,e1,e2⟩
 unfold a3w
 dsimp only
 rw [C0]
 refine⟨fun hc=>?_,fun hc=>?_⟩
 ·have hc:=of_decide_eq_true hc
  have h64:(t.take 64).length=64:=by rw [List.length_take];omega
  obtain⟨q,hq⟩:∃ q,t.length / 64=q + 1:=⟨t.length / 64 - 1,by omega⟩
  have hd:(t.drop 64).length / 64=q:=by rw [List.length_drop];omega
  rw [decide_eq_true (by omega),C4,c8Y g h64,Option.bind_some,decide_eq_true (by omega),C4,Int.toNat_natCast,List.take_length,A3,B4]
  refine⟨q,by omega,t.drop 64,blk g (t.take 64),rfl,by rw [List.length_drop];omega,hd.symm,?_,?_⟩
  ·rw [hd,<-e1,hq];rfl
  ·rw [hd,<-e2,hq,List.drop_drop]
   congr 1
   omega
 ·have hc:=of_decide_eq_false hc
  have h0:t.length / 64=0:=by omega
  rw [h0] at e1 e2
  unfold a3v
  rw [decide_eq_true ⟨by unfold LIM;omega,by unfold LEN;omega⟩,C4,Option.map_some,A3,B8,<-e1,<-e2]
  rfl
theorem d1h {x y:List UInt8} {q r:Nat} (hx:x.length=64 * q):(x ++ y).drop (64 * (q + r))=y.drop (64 * r):=by
 rw [Nat.mul_add,<-List.drop_drop,<-hx,List.drop_left]
theorem a9W {d:DG} {m b:List UInt8} (h:Dig d m) (hl:m.length + b.length<=140737488355000):∃ d',L3 d b=some d'/\Dig d' (m ++ b):=by
 unfold Dig at h
 subst h
 obtain⟨q,hq⟩:∃ q,q=m.length / 64:=⟨_,rfl⟩
 rw [<-hq]
 have hr:(m.drop (64 * q)).length=m.length - 64 * q:=List.length_drop
 have hll:(m.drop (64 * q) ++ b).length=m.length - 64 * q + b.length:=by rw [List.length_append,hr]
 unfold L3
 dsimp only
 rw [hr,decide_eq_true ⟨by unfold LIM;omega,by unfold LEN;omega⟩,C4,decide_eq_true ⟨by unfold LIM;omega,by unfold LEN;omega⟩,C4,c54 (by rw [hll];omega)]
 refine⟨_,rfl,?_⟩
 unfold Dig
 have hx:(m.take (64 * q)).length=64 * q:=by rw [List.length_take];omega
 have hmb:m ++ b=m.take (64 * q) ++ (m.drop (64 * q) ++ b):=by rw [<-List.append_assoc,List.take_append_drop]
 have hn:(m ++ b).length / 64=q + (m.drop (64 * q) ++ b).length / 64:=by rw [hll,List.length_append];omega
 have hbq:b5F q iv (m.take (64 * q))=b5F q iv m:=by
  have h1:=b4z 0 (m.drop (64 * q)) q iv (m.take (64 * q)) hx
  rw [List.take_append_drop] at h1
  exact h1.symm
 refine Prod.ext ?_ (Prod.ext ?_ ?_)
 ·dsimp only
  rw [hn,hmb,b4z _ _ q iv _ hx,hbq]
 ·dsimp only
  rw [hn,hmb]
  exact(d1h hx).symm
 ·dsimp only
  rw [List.length_append,E0 (by omega) (by omega)]
  omega
end Go.Proofs.YtbipjlehhlkghaaGreatDoor.Am
