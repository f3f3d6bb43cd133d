/- Texts laid together: PCfg, PSend. No conditions. -/
import Derived.Test.YtacnfjjkhpkloaaGreatFAll
import Derived.Test.YtacnfjjkhpkloaaGreatQAO
import Derived.KernelRfl
import Derived.Test.YtacnfjjkhpkloaaGreatQAP
namespace Go.Proofs.YtacnfjjkhpkloaaGreat.Am
open Go
def bnd (c:a2r):Nat->Bool
 | 0=>decide (1<=c.1/\c.1<=512)
 | 1=>decide (1<=c.2.1/\c.2.1<=1048576)
 | 2=>decide (1<=c.2.2.1/\c.2.2.1<=4096)
 | 3=>decide (0<=c.2.2.2.1/\c.2.2.2.1<=1024)
 | 4=>decide (0<=c.2.2.2.2.1/\c.2.2.2.2.1<=1073741824)
 | 5=>decide (0<=c.2.2.2.2.2.1/\c.2.2.2.2.2.1<=1073741824)
 | 7=>decide (1<=c.2.2.2.2.2.2.2.1/\c.2.2.2.2.2.2.2.1<=1048576)
 | 8=>decide (-1<=c.2.2.2.2.2.2.2.2.1/\c.2.2.2.2.2.2.2.2.1<=1125899906842624)
 | 10=>decide (0<=c.2.2.2.2.2.2.2.2.2.2.1/\c.2.2.2.2.2.2.2.2.2.2.1<=7)
 | 11=>decide (1<=c.2.2.2.2.2.2.2.2.2.2.2/\c.2.2.2.2.2.2.2.2.2.2.2<=8)
 | _=>true
def a5I (c:a2r):Prop:=(∀ i,i < 12->bnd c i=true)/\c.2.2.2.2.2.2.2.2.2.2.1 < c.2.2.2.2.2.2.2.2.2.2.2
instance (c:a2r):Decidable (a5I c):=by unfold a5I;infer_instance
def b49 (c:a2r):Prop:=(∀ i x,b6o c i=some x-> -9223372036854775808<=x/\x<=9223372036854775807)/\0<=c.2.2.2.2.2.2.2.2.2.1/\c.2.2.2.2.2.2.2.2.2.1 < 18446744073709551616
theorem a4y {c:a2r} {i:Nat} {v lo hi:Int} (hv:I7 c (i:Int)=some v) (hlo:a1a (i:Int)=some lo) (hhi:Z1 (i:Int)=some hi) (h9:i ≠ 9) (h12:i < 12) :
  C8 12 (i:Int) c=if decide (lo<=v/\v<=hi)=true then some (.inl (12,((i + 1:Nat):Int),c)) else some (.inr 1):=by
 by_cases h:lo<=v/\v<=hi
 ·rw [if_pos (decide_eq_true h)]
  refine a1q.1 ?_
  simp only [C8,H2 (i:=i) (by omega),hv,hlo,hhi,D2,C2,B9,F0,decide_eq_true_eq,decide_eq_false_iff_not,Bool.not_eq_true',Bool.not_eq_false']
  exact⟨fun _=>⟨fun _=>⟨fun h=>by omega,fun _=>⟨fun h=>by omega,fun _=>trivial⟩⟩,fun h=>by omega⟩,fun h=>by omega⟩
 ·rw [if_neg (by rw [decide_eq_false h];decide)]
  refine a1q.1 ?_
  simp only [C8,H2 (i:=i) (by omega),hv,hlo,hhi,D2,C2,B9,F0,decide_eq_true_eq,decide_eq_false_iff_not,Bool.not_eq_true',Bool.not_eq_false']
  exact⟨fun _=>⟨fun _=>⟨fun _=>trivial,fun _=>⟨fun _=>trivial,fun _=>by omega⟩⟩,fun h=>by omega⟩,fun h=>by omega⟩
theorem a6T {c:a2r} {i:Nat} {v:Int} (h0:L7 (i:Int) 0 c=some v) (h1:L7 (i:Int) 1 c=some v):I7 c (i:Int)=some v:=by
 unfold I7
 cases c.2.2.2.2.2.2.1
 ·exact h0
 ·exact h1
theorem b7H (c:a2r):∀ i:Nat,i < 12->C8 12 (i:Int) c=if bnd c i=true then some (.inl (12,((i + 1:Nat):Int),c)) else some (.inr 1)
 | 0,h=>a4y (a6T rfl rfl) rfl rfl (by omega) h
 | 1,h=>a4y (a6T rfl rfl) rfl rfl (by omega) h
 | 2,h=>a4y (a6T rfl rfl) rfl rfl (by omega) h
 | 3,h=>a4y (a6T rfl rfl) rfl rfl (by omega) h
 | 4,h=>a4y (a6T rfl rfl) rfl rfl (by omega) h
 | 5,h=>a4y (a6T rfl rfl) rfl rfl (by omega) h
 | 6,h=>by
  have hb:bnd c 6=true:=rfl
  rw [hb,if_pos rfl]
  unfold C8 I7
  cases c.2.2.2.2.2.2.1 <;> rfl
 | 7,h=>a4y (a6T rfl rfl) rfl rfl (by omega) h
 | 8,h=>a4y (a6T rfl rfl) rfl rfl (by omega) h
 | 9,_=>rfl
 | 10,h=>a4y (a6T rfl rfl) rfl rfl (by omega) h
 | 11,h=>a4y (a6T rfl rfl) rfl rfl (by omega) h
theorem b6z {c:a2r} {S:Type} {G:S->Option (S ⊕ Int)} (st:Nat->S) (step:∀ i,i < 12->G (st i)=if bnd c i=true then some (.inl (st (i + 1))) else some (.inr 1)) (stop:G (st 12)=some (.inr (if c.2.2.2.2.2.2.2.2.2.2.1 < c.2.2.2.2.2.2.2.2.2.2.2 then 0 else 1))) :
  Q9 G (st 0)=some (if a5I c then 0 else 1):=by
 refine a1q.1 (O3 (fun n x=>∃ i,i + n=12/\x=st i/\∀ j,j < i->bnd c j=true) ?_ (n:=12) ⟨0,rfl,rfl,fun j h=>by omega⟩ (by omega))
 rintro n x ⟨i,hn,rfl,hb⟩
 by_cases h:i < 12
 ·rw [step i h]
  by_cases hi:bnd c i=true
  ·rw [if_pos hi,B9,C9]
   refine⟨n - 1,by omega,i + 1,by omega,rfl,fun j hj=>?_⟩
   by_cases e:j=i
   ·rw [e];exact hi
   ·exact hb j (by omega)
  ·rw [if_neg hi,B9,D4,if_neg (fun hc=>hi (hc.1 i h))]
 ·have e:i=12:=by omega
  subst e
  rw [stop,B9,D4]
  by_cases hs:c.2.2.2.2.2.2.2.2.2.2.1 < c.2.2.2.2.2.2.2.2.2.2.2
  ·rw [if_pos hs,if_pos ⟨hb,hs⟩]
  ·rw [if_neg hs,if_neg fun hc=>hs hc.2]
theorem b5a (c:a2r):J9 c=some (if a5I c then 0 else 1):=by
 unfold J9 a1B V2
 refine b6z (G:=fun v=>C8 v.1 v.2.1 v.2.2) (fun i=>((12:Int),((i:Nat):Int),c)) (fun i h=>b7H c i h) ?_
 refine a1q.1 ?_
 simp only [C8,M4,D2,C2,B9,F0,decide_eq_true_eq,decide_eq_false_iff_not,Bool.not_eq_true',Bool.not_eq_false']
 refine⟨fun h=>by omega,fun _=>⟨fun h=>?_,fun h=>?_⟩⟩
 ·rw [if_neg (by omega)]
 ·rw [if_pos (by omega)]
def b2r (a b:E7):Bool:=if a.2 || b.2 then a.2 && !b.2 else decide (a.1 < b.1)
theorem c0t (a b:E7):a0U a b=some (b2r a b):=by
 unfold a0U a1s b2r
 cases a.2 <;> cases b.2 <;> rfl
def b0k (r:I9) (v:E7):Bool:= !b2r v r.2.1 && !b2r r.2.2.1 v
theorem c0u (r:I9) (v:E7):a16 r v=some (b0k r v):=by
 unfold a16 b0k
 rw [c0t,Option.bind_some]
 cases b2r v r.2.1
 ·show(a0U r.2.2.1 v).bind _=_
  rw [c0t];rfl
 ·rfl
def rowsV:Vector I9 12:= #v[(([109,97,120,45,116,120,115]:List UInt8),(1,false),(512,false),(100,false)),(([109,97,120,45,98,121,116,101,115]:List UInt8),(1,false),(1048576,false),(65536,false)),(([109,97,120,45,116,120,45,98,121,116,101,115]:List UInt8),(1,false),(4096,false),(1024,false)),(([99,97,99,104,101,45,115,105,122,101]:List UInt8),(0,false),(1024,false),(200,false)),(([116,116,108,45,98,108,111,99,107,115]:List UInt8),(0,false),(1073741824,false),(0,false)),(([116,116,108,45,116,105,109,101]:List UInt8),(0,false),(1073741824,false),(0,false)),(([107,101,101,112,45,105,110,118,97,108,105,100]:List UInt8),(0,false),(1,false),(0,false)),(([98,108,111,99,107,45,98,121,116,101,115]:List UInt8),(1,false),(1048576,false),(32768,false)),(([98,108,111,99,107,45,103,97,115]:List UInt8),(0,true),(1125899906842624,false),(0,true)),(([112,114,105,99,101]:List UInt8),(0,false),(18446744073709551615,false),(1,false)),(([115,101,108,102]:List UInt8),(0,false),(7,false),(0,false)),(([110,111,100,101,115]:List UInt8),(1,false),(8,false),(1,false))]
theorem rows_ok:a3G=some rowsV:=by kernel_rfl
theorem a74 {lo hi x:Int} (h0:0<=lo) (hr: -9223372036854775808<=x/\x<=9223372036854775807) (i:Nat) (pr:Int) (kp:Bool):((a0y (some x) i pr kp).2 && (!b2r (a0y (some x) i pr kp).1 (lo,false) && !b2r (hi,false) (a0y (some x) i pr kp).1))=decide (lo<=x/\x<=hi):=by
 unfold a0y
 dsimp only
 by_cases h1:x < -1
 ·rw [if_pos h1,decide_eq_false (by omega)];rfl
 ·rw [if_neg h1]
  by_cases h2:x= -1
  ·rw [if_pos h2,decide_eq_false (by omega)];rfl
  ·rw [if_neg h2,a7n (n:=x) (by omega) (by omega)]
   show(true && (!decide (x < lo) && !decide (hi < x)))=_
   rw [Bool.true_and,<-decide_not,<-decide_not,<-Bool.decide_and,decide_eq_decide]
   omega
theorem a3p {c:a2r} {i:Nat} (h12:i < 12) (hb:((a0y (b6o c i) i c.2.2.2.2.2.2.2.2.2.1 c.2.2.2.2.2.2.1).2 && b0k (O5 rowsV i Y8) (a0y (b6o c i) i c.2.2.2.2.2.2.2.2.2.1 c.2.2.2.2.2.2.1).1)=bnd c i) :
  I6 rowsV (i:Int) c=if bnd c i=true then some (.inl (rowsV,((i + 1:Nat):Int),c)) else some (.inr 1):=by
 unfold I6
 rw [decide_eq_true (by omega),U3,decide_eq_true (by omega),M5]
 unfold a2M
 rw [decide_eq_true (by omega),M5,Option.bind_some,Int.toNat_natCast]
 rw [c0u,H2 (i:=i) (by omega)]
 rw [<-hb]
 generalize (a0y (b6o c i) i c.2.2.2.2.2.2.2.2.2.1 c.2.2.2.2.2.2.1).2=a
 generalize b0k (O5 rowsV i Y8) (a0y (b6o c i) i c.2.2.2.2.2.2.2.2.2.1 c.2.2.2.2.2.2.1).1=b
 cases a <;> cases b <;> rfl
theorem b7I {c:a2r} (hr:b49 c):∀ i:Nat,i < 12->I6 rowsV (i:Int) c=if bnd c i=true then some (.inl (rowsV,((i + 1:Nat):Int),c)) else some (.inr 1)
 | 0,h=>a3p h (a74 (by omega) (hr.1 0 _ rfl) _ _ _)
 | 1,h=>a3p h (a74 (by omega) (hr.1 1 _ rfl) _ _ _)
 | 2,h=>a3p h (a74 (by omega) (hr.1 2 _ rfl) _ _ _)
 | 3,h=>a3p h (a74 (by omega) (hr.1 3 _ rfl) _ _ _)
 | 4,h=>a3p h (a74 (by omega) (hr.1 4 _ rfl) _ _ _)
 | 5,h=>a3p h (a74 (by omega) (hr.1 5 _ rfl) _ _ _)
 | 6,h=>a3p h (by
  show((a0y none 6 c.2.2.2.2.2.2.2.2.2.1 c.2.2.2.2.2.2.1).2 && b0k (O5 rowsV 6 Y8) (a0y none 6 c.2.2.2.2.2.2.2.2.2.1 c.2.2.2.2.2.2.1).1)=true
  cases c.2.2.2.2.2.2.1 <;> rfl)
 | 7,h=>a3p h (a74 (by omega) (hr.1 7 _ rfl) _ _ _)
 | 8,h=>a3p h (by
  have hx:=hr.1 8 _ rfl
  show((a0y (some c.2.2.2.2.2.2.2.2.1) 8 c.2.2.2.2.2.2.2.2.2.1 c.2.2.2.2.2.2.1).2 && (!b2r (a0y (some c.2.2.2.2.2.2.2.2.1) 8 c.2.2.2.2.2.2.2.2.2.1 c.2.2.2.2.2.2.1).1 (0,true) && !b2r (1125899906842624,false) (a0y (some c.2.2.2.2.2.2.2.2.1) 8 c.2.2.2.2.2.2.2.2.2.1 c.2.2.2.2.2.2.1).1))=decide (-1<=c.2.2.2.2.2.2.2.2.1/\c.2.2.2.2.2.2.2.2.1<=1125899906842624)
  generalize c.2.2.2.2.2.2.2.2.1=x at *
  unfold a0y
  dsimp only
  by_cases h1:x < -1
  ·rw [if_pos h1,decide_eq_false (by omega)];rfl
  ·rw [if_neg h1]
   by_cases h2:x= -1
   ·rw [if_pos h2,decide_eq_true (by omega)];rfl
   ·rw [if_neg h2,a7n (n:=x) (by omega) (by omega)]
    show(true && (true && !decide (1125899906842624 < x)))=_
    rw [Bool.true_and,Bool.true_and,<-decide_not,decide_eq_decide]
    omega)
 | 9,h=>a3p h (by
  obtain⟨_,h1,h2⟩:=hr
  show(true && (!decide (c.2.2.2.2.2.2.2.2.2.1 < 0) && !decide (18446744073709551615 < c.2.2.2.2.2.2.2.2.2.1)))=true
  rw [decide_eq_false (by omega),decide_eq_false (by omega)];rfl)
 | 10,h=>a3p h (a74 (by omega) (hr.1 10 _ rfl) _ _ _)
 | 11,h=>a3p h (a74 (by omega) (hr.1 11 _ rfl) _ _ _)
theorem b5b {c:a2r} (hr:b49 c):a0V c=some (if a5I c then 0 else 1):=by
 unfold a0V a2X
 rw [rows_ok,Option.bind_some]
 refine b6z (G:=fun v=>I6 v.1 v.2.1 v.2.2) (fun i=>(rowsV,((i:Nat):Int),c)) (fun i h=>b7I hr i h) ?_
 refine a1q.1 ?_
 simp only [I6,a09,D2,F8,C2,B9,F0,decide_eq_true_eq,decide_eq_false_iff_not,Bool.not_eq_true',Bool.not_eq_false',Int.toNat_natCast]
 refine⟨fun h=>by omega,fun _=>⟨fun h=>?_,fun h=>?_⟩⟩
 ·rw [if_neg (by omega)]
 ·rw [if_pos (by omega)]
def c0v:a2r:=(100,65536,1024,200,(0:Int),(0:Int),false,32768,(-1),1,(0:Int),1)
def c7h:a2r:=((0:Int),(0:Int),(0:Int),(0:Int),(0:Int),(0:Int),false,(0:Int),(0:Int),(0:Int),(0:Int),(0:Int))
def c8Y:Nat->a2r
 | 0=>c7h
 | i + 1=>c8o (c8Y i) i (O5 rowsV i Y8).2.2.2.1 (O5 rowsV i Y8).2.2.2.2
theorem c8Z:c8Y 12=c0v:=by kernel_rfl
theorem b2s:a0d=some c0v:=by
 unfold a0d a3s
 rw [rows_ok,Option.bind_some,<-c8Z]
 refine a1q.1 (O3 (fun n x=>∃ i,i + n=12/\x=(rowsV,((i:Nat):Int),c7h,c8Y i)) ?_ (n:=12) ⟨0,rfl,rfl⟩ (by omega))
 rintro n x ⟨i,hn,rfl⟩
 simp only [a1A,a4c,H2 (i:=i) (by omega),D2,F8,C2,B9,C9,D4,decide_eq_true_eq,decide_eq_false_iff_not,Int.toNat_natCast]
 refine⟨fun h=>⟨by omega,by omega,n - 1,by omega,i + 1,by omega,rfl⟩,fun h=>?_⟩
 have:i=12:=by omega
 rw [this]
theorem b5c:a5I c0v:=⟨by decide,by decide⟩
end Go.Proofs.YtacnfjjkhpkloaaGreat.Am
namespace Go.Proofs.YtacnfjjkhpkloaaGreat.Am
open Go
abbrev R17:=List UInt8 × Int × Int
def ltP (q:Int) (p:PlD):Bool:=decide (p.1 < q)
def b5e (ps:List PlD):Prop:=ps.Pairwise fun a b=>a.1 < b.1
theorem c7J {ps:List PlD} (h:b5e ps) (q:Int):Pre (ltP q) ps:=h.imp fun hab hb=>decide_eq_true (by have:=of_decide_eq_true hb;omega)
theorem b5f {α:Type} {P:α->Bool} {m:List α} (h:Pre P m) {i:Nat} (hi:i < m.length):P m[i]=true ↔ i < m.countP P:=by
 obtain⟨t1,t2⟩:=a72 h
 constructor
 ·intro hp
  have:=c0m h hi hp
  have h2:=List.Sublist.countP_le (p:=P) (List.take_sublist (i + 1) m)
  omega
 ·intro hlt
  have hm:m[i] ∈ m.take (m.countP P):=by
   rw [List.mem_take_iff_getElem]
   exact⟨i,by omega,rfl⟩
  rw [t1] at hm
  exact(List.mem_filter.1 hm).2
theorem c7i (a b:Int):Ff.F_cmp_Compare_uint64 a b=some (if a < b then -1 else if b < a then 1 else 0):=by
 have hn:∀ x,Ff.F_cmp_isNaN_uint64 x=some false:=fun x=>by unfold Ff.F_cmp_isNaN_uint64;rw [decide_eq_true rfl];rfl
 unfold Ff.F_cmp_Compare_uint64
 rw [hn,hn,Option.bind_some,Option.bind_some,L0,L0]
 by_cases h:a < b
 ·rw [if_pos h,decide_eq_true h,U3]
 ·rw [if_neg h,decide_eq_false h,L0]
  by_cases k:b < a
  ·rw [if_pos k,decide_eq_true k,U3]
  ·rw [if_neg k,decide_eq_false k,L0]
theorem c80 {x:Nat} (h:x<=9223372036854775807):C6 (a3P (C6 (x:Int)) / 2 ^ 1)=((x / 2:Nat):Int):=by
 rw [E4 (n:=(x:Int)) (by omega) (by omega),a7n (by omega) (by omega),E4 (by omega) (by omega)]
 omega
def a8R (ps:List PlD) (q:Int):Bool:=decide (q ∈ D1 ps)
theorem b2t {ps:List PlD} (hs:b5e ps) {q:Int}:a8R ps q=decide ((ps[ps.countP (ltP q)]?).map (·.1)=some q):=by
 unfold a8R
 rw [decide_eq_decide]
 constructor
 ·intro h
  obtain⟨v,hv⟩:=E8.1 h
  obtain⟨j,hj,he⟩:=List.getElem_of_mem hv
  have h1:¬ j < ps.countP (ltP q):=fun h=>by
   have:=(b5f (c7J hs q) hj).2 h
   rw [he] at this
   have:=of_decide_eq_true this
   dsimp only at this
   omega
  have h2:¬ ps.countP (ltP q) < j:=fun h=>by
   have h3:=List.pairwise_iff_getElem.1 hs _ j (by omega) hj h
   rw [he] at h3
   exact Nat.lt_irrefl _ ((b5f (c7J hs q) (by omega)).1 (decide_eq_true h3))
  have h3:ps.countP (ltP q)=j:=by omega
  rw [h3,List.getElem?_eq_getElem hj,he];rfl
 ·intro h
  obtain⟨p,h1,h2⟩:=Option.map_eq_some_iff.1 h
  exact E8.2 ⟨p.2,by rw [<-h2];exact List.mem_of_getElem? h1⟩
theorem c0w {ps:List PlD} (hs:b5e ps) (hl:ps.length<=1000000) (q:Int):Ff.F_sender_find ps q=some (((ps.countP (ltP q):Nat):Int),a8R ps q):=by
 have hc:ps.countP (ltP q)<=ps.length:=List.countP_le_length
 refine a1q.1 ?_
 unfold Ff.F_sender_find Ff.F_slices_BinarySearchFunc_sender_place_sender_place_uint64_of_sender_find_1
 rw [C2]
 unfold Ff.F_slices_BinarySearchFunc_sender_place_sender_place_uint64_of_sender_find_1_l2s
 refine O3 (fun n x=>∃ lo hi:Nat,x=(ps,q,((ps.length:Nat):Int),((lo:Nat):Int),((hi:Nat):Int))/\lo<=ps.countP (ltP q)/\ps.countP (ltP q)<=hi/\hi<=ps.length/\n=hi - lo) ?_ (n:=ps.length) ⟨0,ps.length,rfl,Nat.zero_le _,hc,Nat.le_refl _,by omega⟩ (by omega)
 rintro n x ⟨lo,hi,rfl,h1,h2,h3,rfl⟩
 unfold Ff.F_slices_BinarySearchFunc_sender_place_sender_place_uint64_of_sender_find_1_l2
 dsimp only
 rw [D2]
 refine⟨fun hlt=>?_,fun hge=>?_⟩
 ·have hlt:=of_decide_eq_true hlt
  have hm:C6 (a3P (C6 ((lo:Int) + (hi:Int))) / 2 ^ 1)=(((lo + hi) / 2:Nat):Int):=by
   rw [<-c80 (by omega)];congr 4
  have hml:(lo + hi) / 2 < ps.length:=by omega
  have hi2:=b5f (c7J hs q) hml
  have hg:List.getD ps ((lo + hi) / 2) Ff.d_sender_place=ps[(lo + hi) / 2]:=R4 hml _
  rw [hm,F8,Int.toNat_natCast,hg]
  refine⟨decide_eq_true (by omega),?_⟩
  unfold Ff.F_sender_find_1
  rw [c7i,Option.bind_some,Option.bind_some,D2]
  unfold ltP at hi2
  rw [decide_eq_true_eq] at hi2
  refine⟨fun h=>?_,fun h=>?_⟩
  ·have h:=of_decide_eq_true h
   have hl:ps[(lo + hi) / 2].1 < q:=by split at h <;> first | assumption | (split at h <;> omega)
   have:=hi2.1 hl
   rw [B9,C9,H2 (by omega)]
   exact⟨_,by omega,_,hi,rfl,by unfold ltP at *;omega,h2,h3,rfl⟩
  ·have h:=of_decide_eq_false h
   have hl:¬ ps[(lo + hi) / 2].1 < q:=fun hl=>by rw [if_pos hl] at h;omega
   have:¬ (lo + hi) / 2 < List.countP (ltP q) ps:=fun k=>hl (hi2.2 k)
   rw [B9,C9]
   exact⟨_,by omega,lo,_,rfl,h1,by omega,by omega,rfl⟩
 ·have hge:=of_decide_eq_false hge
  have hlo:lo=ps.countP (ltP q):=by omega
  rw [F0]
  unfold Ff.F_slices_BinarySearchFunc_sender_place_sender_place_uint64_of_sender_find_1_c1
  rw [D2]
  refine⟨fun hlt=>?_,fun hge2=>?_⟩
  ·have hlt:lo < ps.length:=by have:=of_decide_eq_true hlt;omega
   have hg:List.getD ps lo Ff.d_sender_place=ps[lo]:=R4 hlt _
   rw [F8,Int.toNat_natCast,hg]
   refine⟨decide_eq_true (by omega),?_⟩
   unfold Ff.F_sender_find_1
   rw [c7i,Option.bind_some,Option.bind_some,B9,D4,B9,b2t hs,<-hlo]
   have e:decide ((if ps[lo].1 < q then -1 else if q < ps[lo].1 then 1 else 0:Int)=0)=decide ((ps[lo]?).map (·.1)=some q):=by
    rw [decide_eq_decide,List.getElem?_eq_getElem hlt]
    show _ ↔ some ps[lo].1=some q
    rw [Option.some_inj]
    split
    ·omega
    ·split <;> omega
   rw [e]
  ·have hge2:=of_decide_eq_false hge2
   rw [B9,D4,B9,b2t hs,<-hlo,List.getElem?_eq_none (by omega)]
   rfl
def ltR (k:List UInt8) (q:Int) (r:R17):Bool:=Op.bytesLess r.1 k || (decide (r.1=k) && decide (r.2.1 < q))
theorem b2u {k:List UInt8} {q:Int} {r:R17}:ltR k q r=true ↔ Op.bytesLess r.1 k=true\/(r.1=k/\r.2.1 < q):=by
 simp [ltR]
def a8v (m:List R17):Prop:=m.Pairwise fun a b=>ltR b.1 b.2.1 a=true
theorem b3H {a b:R17} {k:List UInt8} {q:Int} (h:ltR b.1 b.2.1 a=true) (j:ltR k q b=true):ltR k q a=true:=by
 rw [b2u] at *
 rcases h with h | ⟨h1,h2⟩ <;> rcases j with j | ⟨j1,j2⟩
 ·exact .inl (b6A h j)
 ·exact .inl (by rw [<-j1];exact h)
 ·exact .inl (by rw [h1];exact j)
 ·exact .inr ⟨h1.trans j1,by omega⟩
theorem c9Z {m:List R17} (h:a8v m) (k:List UInt8) (q:Int):Pre (ltR k q) m:=h.imp fun hab hb=>b3H hab hb
def b5g (m:List R17) (k:List UInt8) (q:Int):Prop:=∃ r ∈ m,r.1=k/\r.2.1=q
instance (m:List R17) (k:List UInt8) (q:Int):Decidable (b5g m k q):=by unfold b5g;infer_instance
def b7J (m:List R17) (x:R17):List R17 × Bool:=if b5g m x.1 x.2.1 then(m,false) else(m.filter (ltR x.1 x.2.1) ++ [x] ++ m.filter (fun y=> !ltR x.1 x.2.1 y),true)
def b0C (k:List UInt8) (q:Int) (r:R17):Bool:=decide (¬ (r.1=k/\r.2.1=q))
def b7K (m:List R17) (k:List UInt8) (q:Int):List R17 × Bool:=if b5g m k q then(m.filter (b0C k q),true) else(m,false)
theorem c3j {a b:R17} (h:ltR b.1 b.2.1 a=true):¬ (a.1=b.1/\a.2.1=b.2.1):=fun⟨h1,h2⟩=>by
 rw [b2u] at h
 rcases h with h | ⟨_,h⟩
 ·rw [h1,a75] at h;cases h
 ·omega
theorem b5h {m:List R17} (hs:a8v m) {i:Nat} (hi:i < m.length):m.filter (b0C m[i].1 m[i].2.1)=m.take i ++ m.drop (i + 1):=by
 have e:m=m.take i ++ m[i] :: m.drop (i + 1):=by rw [List.getElem_cons_drop,List.take_append_drop]
 have hs':=hs
 unfold a8v at hs'
 rw [e,List.pairwise_append,List.pairwise_cons] at hs'
 obtain⟨_,⟨h2,_⟩,h3⟩:=hs'
 generalize hx:m[i]=x at *
 conv=>lhs;rw [e]
 rw [List.filter_append,List.filter_cons_of_neg (by simp [b0C]),List.filter_eq_self.2,List.filter_eq_self.2]
 ·intro y hy;exact decide_eq_true fun h=>c3j (h2 y hy) ⟨h.1.symm,h.2.symm⟩
 ·intro y hy;exact decide_eq_true (c3j (h3 y hy x (by simp)))
def a31 (k:List UInt8) (m:List R17):List PlD:=(m.filter fun r=>decide (r.1=k)).map (·.2)
theorem b5i (k:List UInt8) (m:List R17):(a31 k m).length<=m.length:=by
 unfold a31;rw [List.length_map];exact List.length_filter_le ..
theorem b2v {k:List UInt8} {m:List R17} {p:PlD}:p ∈ a31 k m ↔ (k,p) ∈ m:=by
 unfold a31
 rw [List.mem_map]
 constructor
 ·rintro⟨r,h,rfl⟩
  obtain⟨h1,h2⟩:=List.mem_filter.1 h
  rw [<-of_decide_eq_true h2];exact h1
 ·intro h
  exact⟨_,List.mem_filter.2 ⟨h,decide_eq_true rfl⟩,rfl⟩
theorem a6t {m:List R17} (h:a8v m) (k:List UInt8):b5e (a31 k m):=by
 unfold b5e a31
 rw [List.pairwise_map,List.pairwise_filter]
 refine h.imp fun {a b} hab ha hb=>?_
 rw [b2u] at hab
 have ha:=of_decide_eq_true ha
 have hb:=of_decide_eq_true hb
 rcases hab with hab | hab
 ·rw [ha,hb,a75] at hab;cases hab
 ·exact hab.2
theorem b0l (k:List UInt8) (l m:List R17):a31 k (l ++ m)=a31 k l ++ a31 k m:=by
 unfold a31;rw [List.filter_append,List.map_append]
theorem b0m {m:List R17} {k:List UInt8} {q:Int}:q ∈ D1 (a31 k m) ↔ b5g m k q:=by
 rw [E8]
 constructor
 ·rintro⟨v,h⟩;exact⟨_,b2v.1 h,rfl,rfl⟩
 ·rintro⟨r,h,rfl,rfl⟩;exact⟨r.2.2,b2v.2 h⟩
theorem a6u (k:List UInt8) (m:List R17) (P:R17->Bool) (Q:PlD->Bool) (h:∀ r,r.1=k->P r=Q r.2):a31 k (m.filter P)=(a31 k m).filter Q:=by
 unfold a31
 rw [List.filter_map,List.filter_filter,List.filter_filter]
 congr 1
 refine List.filter_congr fun r _=>?_
 by_cases hk:r.1=k
 ·rw [decide_eq_true hk,h r hk];simp
 ·rw [decide_eq_false hk];simp
theorem c0x (k:List UInt8) (m:List R17) (h:∀ r ∈ m,r.1 ≠ k):a31 k m=[]:=by
 unfold a31
 rw [List.filter_eq_nil_iff.2 fun r hr=>by simpa using h r hr];rfl
theorem b6B (k:List UInt8) (q:Int) (r:R17) (h:r.1=k):ltR k q r=ltP q r.2:=by
 unfold ltR ltP;rw [h,a75];simp
theorem c4L {m:List R17} (hs:a8v m) {x:R17} (hx:¬ b5g m x.1 x.2.1):a31 x.1 (b7J m x).1=(a31 x.1 m).take ((a31 x.1 m).countP (ltP x.2.1)) ++ x.2 :: (a31 x.1 m).drop ((a31 x.1 m).countP (ltP x.2.1))/\∀ k,k ≠ x.1->a31 k (b7J m x).1=a31 k m:=by
 obtain⟨t1,t2⟩:=a72 (c7J (a6t hs x.1) x.2.1)
 unfold b7J
 rw [if_neg hx,t1,t2]
 refine⟨?_,fun k hk=>?_⟩
 ·dsimp only
  rw [b0l,b0l,a6u x.1 m _ (ltP x.2.1) (fun r h=>b6B _ _ r h),a6u x.1 m _ (fun p=> !ltP x.2.1 p) (fun r h=>by rw [b6B _ _ r h])]
  have:a31 x.1 [x]=[x.2]:=by unfold a31;simp
  rw [this];simp
 ·dsimp only
  have h1:a31 k [x]=[]:=c0x k _ fun r hr=>by rw [List.mem_singleton.1 hr];exact hk.symm
  rw [b0l,b0l,h1,List.append_nil,<-b0l,<-(a72 (c9Z hs x.1 x.2.1)).1,<-(a72 (c9Z hs x.1 x.2.1)).2,List.take_append_drop]
theorem b7L {ps:List PlD} (hs:b5e ps) {i:Nat} (hi:i < ps.length):ps.eraseIdx i=ps.filter (fun p=>decide (p.1 ≠ ps[i].1)):=by
 have e:ps=ps.take i ++ ps[i] :: ps.drop (i + 1):=by rw [List.getElem_cons_drop,List.take_append_drop]
 have hs':=hs
 unfold b5e at hs'
 rw [e,List.pairwise_append,List.pairwise_cons] at hs'
 obtain⟨_,⟨h2,_⟩,h3⟩:=hs'
 rw [List.eraseIdx_eq_take_drop_succ]
 generalize hx:ps[i]=x at *
 conv=>rhs;rw [e]
 rw [List.filter_append,List.filter_cons_of_neg (by simp),List.filter_eq_self.2,List.filter_eq_self.2]
 ·intro y hy;have:=h2 y hy;simp;omega
 ·intro y hy;have:=h3 y hy x (by simp);simp;omega
theorem c4M {m:List R17} (hs:a8v m) {k:List UInt8} {q:Int} (hx:b5g m k q):a31 k (b7K m k q).1=(a31 k m).eraseIdx ((a31 k m).countP (ltP q))/\(a31 k m).countP (ltP q) < (a31 k m).length/\∀ k',k' ≠ k->a31 k' (b7K m k q).1=a31 k' m:=by
 have h1:=b2t (a6t hs k) (q:=q)
 unfold a8R at h1
 rw [decide_eq_true (b0m.2 hx)] at h1
 have h1:=of_decide_eq_true h1.symm
 obtain⟨p,h2,h3⟩:=Option.map_eq_some_iff.1 h1
 obtain⟨h4,h5⟩:=List.getElem?_eq_some_iff.1 h2
 unfold b7K
 rw [if_pos hx]
 refine⟨?_,h4,fun k' hk=>?_⟩
 ·rw [b7L (a6t hs k) h4]
  refine a6u k m _ _ fun r hr=>?_
  unfold b0C
  rw [decide_eq_decide,h5,h3]
  simp [hr]
 ·dsimp only
  rw [a6u k' m (b0C k q) (fun _=>true) fun r hr=>decide_eq_true fun h=>hk (by rw [<-hr];exact h.1)]
  exact List.filter_eq_self.2 fun _ _=>rfl
end Go.Proofs.YtacnfjjkhpkloaaGreat.Am
