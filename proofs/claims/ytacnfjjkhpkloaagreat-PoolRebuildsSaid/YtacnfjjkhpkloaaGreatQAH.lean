/- The order of the heap's sorted list: its items are compared by priority, by order, by number. No conditions. -/
import Derived.Test.YtacnfjjkhpkloaaGreatQAF
import Derived.Test.YtacnfjjkhpkloaaGreatQAG
import Derived.Test.YtacnfjjkhpkloaaGreatQAA
namespace Go.Proofs.YtacnfjjkhpkloaaGreat.Am
open Go Go.Shelf Go.Proofs Go.RowKit
def b3q (x y:Int):Int:=if x < y then -1 else if y < x then 1 else 0
def a4r:List Int->Int
 | []=>0
 | x :: l=>if x=0 then a4r l else x
def a7S (a b:Int × Int × Int):Int:=a4r [b3q b.2.1 a.2.1,b3q a.2.2 b.2.2,b3q a.1 b.1]
theorem b2f (x y:Int):b3q x y < 0 ↔ x < y:=by unfold b3q;split <;> (try split) <;> omega
theorem b0a (x y:Int):b3q x y=0 ↔ x=y:=by unfold b3q;split <;> (try split) <;> omega
theorem b6q (a b:Int × Int × Int):ltOf a7S a b=true ↔ b.2.1 < a.2.1\/(a.2.1=b.2.1/\(a.2.2 < b.2.2\/(a.2.2=b.2.2/\a.1 < b.1))):=by
 unfold ltOf a7S
 rw [decide_eq_true_eq]
 have h1:=b2f b.2.1 a.2.1
 have h2:=b0a b.2.1 a.2.1
 have h3:=b2f a.2.2 b.2.2
 have h4:=b0a a.2.2 b.2.2
 have h5:=b2f a.1 b.1
 have h6:=b0a a.1 b.1
 simp only [a4r]
 generalize b3q b.2.1 a.2.1=p at *
 generalize b3q a.2.2 b.2.2=q at *
 generalize b3q a.1 b.1=r at *
 by_cases hp:p=0
 ·rw [if_pos hp]
  by_cases hq:q=0
  ·rw [if_pos hq]
   by_cases hr:r=0
   ·rw [if_pos hr];omega
   ·rw [if_neg hr];omega
  ·rw [if_neg hq];omega
 ·rw [if_neg hp];omega
theorem b9X:Sort.SWO (ltOf a7S):=by
 refine⟨fun x=>?_,fun x y z h k=>?_,fun x y z h k=>?_⟩
 ·rw [<-Bool.not_eq_true,b6q];omega
 ·rw [b6q] at h k ⊢;omega
 ·rw [<-Bool.not_eq_true,b6q] at h k ⊢;omega
theorem d0n (x:Int) (w:World):Calls Tryz.prog 101 #[.int .i64 x] w fun e w'=>e= .returned (.bool false)/\w'=w:=by
 go_enter Tryz.func101,Tryz.ntmps101
 go_wp2
 go_ret
 exact⟨by simp,rfl⟩
theorem d0o (x:Int) (w:World):Calls Tryz.prog 100 #[.int .u64 x] w fun e w'=>e= .returned (.bool false)/\w'=w:=by
 go_enter Tryz.func100,Tryz.ntmps100
 go_wp2
 go_ret
 exact⟨by simp,rfl⟩
set_option maxHeartbeats 1000000 in
theorem c8R (x y:Int) (w:World):Calls Tryz.prog 75 #[.int .i64 x,.int .i64 y] w fun e w'=>e= .returned (.int .i64 (b3q x y))/\w'=w:=by
 go_enter Tryz.func75,Tryz.ntmps75
 go_wp2_with (go_at_call 101;refine(d0n _ _).mono ?_;rintro e w' ⟨rfl,hw⟩;rw [hw])
 all_goals (go_ret;refine⟨?_,rfl⟩;unfold b3q;(repeat' split) <;> first | rfl | (exfalso;omega))
set_option maxHeartbeats 1000000 in
theorem c8S (x y:Int) (w:World):Calls Tryz.prog 74 #[.int .u64 x,.int .u64 y] w fun e w'=>e= .returned (.int .i64 (b3q x y))/\w'=w:=by
 go_enter Tryz.func74,Tryz.ntmps74
 go_wp2_with (go_at_call 100;refine(d0o _ _).mono ?_;rintro e w' ⟨rfl,hw⟩;rw [hw])
 all_goals (go_ret;refine⟨?_,rfl⟩;unfold b3q;(repeat' split) <;> first | rfl | (exfalso;omega))
set_option maxHeartbeats 1000000 in
set_option maxRecDepth 100000 in
theorem orI (l:List Int) (b:Nat) (w:World) (hb:∀ k,(h:k < l.length)->w.cell? ⟨b,k,none⟩=some (.int .i64 l[k])) (hl:l.length < 1000):Calls Tryz.prog 73 #[.slice (some ⟨b,0,none⟩) l.length l.length] w fun e w'=>e= .returned (.int .i64 (a4r l))/\w'=w:=by
 obtain⟨n,hn⟩:∃ n,l.length=n:=⟨_,rfl⟩
 rw [hn] at hl ⊢
 have Hn:=Lib.hid hn;clear hn
 go_enter Tryz.func73,Tryz.ntmps73
 go_wp2
 go_loop [8] (fun i=>∃ k:Nat,i= .int .i64 k/\k<=n/\a4r l=a4r (l.drop k)) (fun i=>n - (intOf i).toNat)
 case atStart=>exact⟨0,rfl,by omega,by simp⟩
 case round=>
  obtain⟨k,rfl,hk,hf⟩:=hrel
  have Hf:=Lib.hid hf;clear hf
  by_cases hlt:(k:Int) < (n:Int)
  ·have hkl:k < l.length:=by rw [Hn.out];omega
   have hc:=hb k hkl
   have Hdrop:=Lib.hid (List.drop_eq_getElem_cons hkl)
   clear hb
   generalize l[k]=x at *
   by_cases hx:x=0
   ·go_wp2_with fail
    go_round
    case rel=>exact⟨k + 1,by go_num,by omega,by rw [Hf.out,Hdrop.out,a4r,if_pos hx]⟩
    case measure=>simp [intOf];omega
   ·go_wp2_with fail
    go_ret
    exact⟨by rw [Hf.out,Hdrop.out,a4r,if_neg hx];rfl,rfl⟩
  ·have hkn:k=n:=by omega
   go_wp2_with fail
   go_ret
   exact⟨by rw [Hf.out,List.drop_of_length_le (by rw [Hn.out];omega)];rfl,rfl⟩
theorem d0p (a b c:Int) (W:World):Calls Tryz.prog 73 #[.slice (some ⟨W.heap.size,0,none⟩) 3 3] (W.alloc (.cells #[.int .i64 a,.int .i64 b,.int .i64 c] 3)).drew fun e w'=>e= .returned (.int .i64 (a4r [a,b,c]))/\w'=(W.alloc (.cells #[.int .i64 a,.int .i64 b,.int .i64 c] 3)).drew:=
 orI [a,b,c] _ _ (fun k hk=>(Box.new W 3 [.int .i64 a,.int .i64 b,.int .i64 c] rfl).drew.cell k (by
  have hk':k=0\/k=1\/k=2:=by simp at hk;omega
  rcases hk' with rfl | rfl | rfl <;> rfl)) (by simp)
set_option maxHeartbeats 4000000 in
set_option maxRecDepth 100000 in
theorem c2f (x1 x2 x3 y1 y2 y3:Int) (W:World):Calls Tryz.prog 72 #[.agg #[.int .i64 x1,.int .u64 x2,.int .i64 x3],.agg #[.int .i64 y1,.int .u64 y2,.int .i64 y3]] W
  fun o w'=>o= .returned (.int .i64 (a4r [b3q y2 x2,b3q x3 y3,b3q x1 y1]))/\∃ q os,w'=Sort.grow (W.drewN q) os:=by
 have hb2:Box ((W.alloc (.cells #[.int .i64 x1,.int .u64 x2,.int .i64 x3] 94)).alloc (.cells #[.int .i64 y1,.int .u64 y2,.int .i64 y3] 94)) W.heap.size 94 [.int .i64 x1,.int .u64 x2,.int .i64 x3]:=(Box.new W 94 [.int .i64 x1,.int .u64 x2,.int .i64 x3] rfl).alloc _
 have hb3:Box ((W.alloc (.cells #[.int .i64 x1,.int .u64 x2,.int .i64 x3] 94)).alloc (.cells #[.int .i64 y1,.int .u64 y2,.int .i64 y3] 94)) (W.heap.size + 1) 94 [.int .i64 y1,.int .u64 y2,.int .i64 y3]:=Box.new (W.alloc (.cells #[.int .i64 x1,.int .u64 x2,.int .i64 x3] 94)) 94 [.int .i64 y1,.int .u64 y2,.int .i64 y3] (by simp)
 have hgr:∃ os,((W.alloc (.cells #[.int .i64 x1,.int .u64 x2,.int .i64 x3] 94)).alloc (.cells #[.int .i64 y1,.int .u64 y2,.int .i64 y3] 94))=Sort.grow W os:=⟨_,by rw [Sort.alloc_eq_grow,Sort.alloc_eq_grow,Sort.grow_grow]⟩
 go_enter Tryz.func72,Tryz.ntmps72
 go_wp2_with fail
 generalize ((W.alloc (.cells #[.int .i64 x1,.int .u64 x2,.int .i64 x3] 94)).alloc (.cells #[.int .i64 y1,.int .u64 y2,.int .i64 y3] 94))=W1 at hb2 hb3 hgr ⊢
 generalize W.heap.size + 1=b3 at hb3 ⊢
 generalize W.heap.size=b2 at hb2 ⊢
 have k0:=hb2.cell 0 rfl
 have k1:=hb2.cell 1 rfl
 have k2:=hb2.cell 2 rfl
 have k3:=hb3.cell 0 rfl
 have k4:=hb3.cell 1 rfl
 have k5:=hb3.cell 2 rfl
 go_region_held3 (fun w'=>w'.cell? ⟨b2,0,none⟩=some (.int .i64 x1)/\w'.cell? ⟨b2,1,none⟩=some (.int .u64 x2)/\w'.cell? ⟨b2,2,none⟩=some (.int .i64 x3)/\w'.cell? ⟨b3,0,none⟩=some (.int .i64 y1)/\w'.cell? ⟨b3,1,none⟩=some (.int .u64 y2)/\w'.cell? ⟨b3,2,none⟩=some (.int .i64 y3))
  (first | exact⟨k0,k1,k2,k3,k4,k5⟩ | exact⟨(hb2.drew.alloc _).cell 0 rfl,(hb2.drew.alloc _).cell 1 rfl,(hb2.drew.alloc _).cell 2 rfl,(hb3.drew.alloc _).cell 0 rfl,(hb3.drew.alloc _).cell 1 rfl,(hb3.drew.alloc _).cell 2 rfl⟩)
  (first
   | (go_at_call 74;refine(c8S _ _ _).mono ?_;rintro e w2 ⟨rfl,rfl⟩)
   | (go_at_call 75;refine(c8R _ _ _).mono ?_;rintro e w2 ⟨rfl,rfl⟩)
   | (go_at_call 73;refine(d0p _ _ _ _).mono ?_;rintro e w2 ⟨rfl,rfl⟩))
 go_wp2
 go_ret
 obtain⟨os,rfl⟩:=hgr
 exact⟨rfl,1,_,by rw [Sort.alloc_eq_grow,Sort.grow_grow];rfl⟩
theorem b7t:FnT Tryz.prog 71 (b2e (.pr (.int .i64) (.pr (.int .u64) (.int .i64))) 94 72 a7S):=
 c2e Tryz.sortItems (fn:=Tryz.f71) Tryz.func71 rfl rfl (.pr (.int .i64) (.pr (.int .u64) (.int .i64))) rfl 94 (by decide) (fun w=>c4q.isAgg w) (fun w=>c4q.sizeOf w) a7S b9X 72 (enters_of Tryz.func72 (by kernel_rfl) rfl) fun x y W=>c2f x.1 x.2.1 x.2.2 y.1 y.2.1 y.2.2 W
end Go.Proofs.YtacnfjjkhpkloaaGreat.Am
