/- Texts laid together: ConfigF, ConfigS. No conditions. -/
import Derived.Test.YtacnfjjkhpkloaaGreatQAD
namespace Go.Proofs.YtacnfjjkhpkloaaGreat.Am
open Go Go.Proofs Go.RowKit Go.MapKept
abbrev a2r:Type:=Int × Int × Int × Int × Int × Int × Bool × Int × Int × Int × Int × Int
def b6o (c:a2r):Nat->Option Int
 | 0=>some c.1
 | 1=>some c.2.1
 | 2=>some c.2.2.1
 | 3=>some c.2.2.2.1
 | 4=>some c.2.2.2.2.1
 | 5=>some c.2.2.2.2.2.1
 | 7=>some c.2.2.2.2.2.2.2.1
 | 8=>some c.2.2.2.2.2.2.2.2.1
 | 10=>some c.2.2.2.2.2.2.2.2.2.2.1
 | 11=>some c.2.2.2.2.2.2.2.2.2.2.2
 | _=>none
def a2M (c:a2r) (i:Int):Option ((Int × Bool) × Bool):=chk (decide (0<=i/\i < 12)) (some (a0y (b6o c i.toNat) i.toNat c.2.2.2.2.2.2.2.2.2.1 c.2.2.2.2.2.2.1))
def b7V (c:a2r):List Value:=[.int .i64 c.1,.int .i64 c.2.1,.int .i64 c.2.2.1,.int .i64 c.2.2.2.1,.int .i64 c.2.2.2.2.1,.int .i64 c.2.2.2.2.2.1,.bool c.2.2.2.2.2.2.1,.int .i64 c.2.2.2.2.2.2.2.1,.int .i64 c.2.2.2.2.2.2.2.2.1,.int .u64 c.2.2.2.2.2.2.2.2.2.1,.int .i64 c.2.2.2.2.2.2.2.2.2.2.1,.int .i64 c.2.2.2.2.2.2.2.2.2.2.2]
theorem b7s (c:a2r) (w:World):∀ i:Nat,i < 12->Calls Tryz.prog 85 #[.agg (b7V c).toArray,.int .i64 (i:Int)] w fun e w'=>
  e= .returned (.tuple #[.agg #[.int .u64 (a0y (b6o c i) i c.2.2.2.2.2.2.2.2.2.1 c.2.2.2.2.2.2.1).1.1,.bool (a0y (b6o c i) i c.2.2.2.2.2.2.2.2.2.1 c.2.2.2.2.2.2.1).1.2],.bool (a0y (b6o c i) i c.2.2.2.2.2.2.2.2.2.1 c.2.2.2.2.2.2.1).2])/\w.grownBy w' none
 | 0,_=>c4f _ _ _ _ _ _ _ _ _ _ _ _ w
 | 1,_=>c4g _ _ _ _ _ _ _ _ _ _ _ _ w
 | 2,_=>c4h _ _ _ _ _ _ _ _ _ _ _ _ w
 | 3,_=>c4i _ _ _ _ _ _ _ _ _ _ _ _ w
 | 4,_=>c4j _ _ _ _ _ _ _ _ _ _ _ _ w
 | 5,_=>c4k _ _ _ _ _ _ _ _ _ _ _ _ w
 | 6,_=>c4l _ _ _ _ _ _ _ _ _ _ _ _ w
 | 7,_=>c4m _ _ _ _ _ _ _ _ _ _ _ _ w
 | 8,_=>c4n _ _ _ _ _ _ _ _ _ _ _ _ w
 | 9,_=>c4o _ _ _ _ _ _ _ _ _ _ _ _ w
 | 10,_=>c2b _ _ _ _ _ _ _ _ _ _ _ _ w
 | 11,_=>c2c _ _ _ _ _ _ _ _ _ _ _ _ w
theorem a7R {I:Nat->Nat->Prop} {w:World}:∀ {vs us:List Value} {F:List Nat},OCs I w (vs.map fun v=> .d (.v v)) us F->us=vs/\F=[]
 | [],us,F,h=>by simpa only [List.map_nil,OCs] using h
 | v :: vs,us,F,h=>by
  simp only [List.map_cons,OCs] at h
  obtain⟨x,r,F1,F2,rfl,h1,h2,rfl⟩:=h
  simp only [OCr,DVr] at h1
  obtain⟨rfl,rfl,_⟩:=h1
  obtain⟨rfl,rfl⟩:=a7R h2
  exact⟨rfl,rfl⟩
def c55:U:= .pr (.int .u64) .bool
def c8d:U:= .pr (.int .i64) (.pr (.int .i64) (.pr (.int .i64) (.pr (.int .i64) (.pr (.int .i64) (.pr (.int .i64) (.pr .bool (.pr (.int .i64) (.pr (.int .i64) (.pr (.int .u64) (.pr (.int .i64) (.int .i64)))))))))))
def a2N:TFn:=⟨.cons (.agg (.cons (.d c8d) .nil)) (.cons (.c (.d (.int .i64))) .nil),.nil,.cons (.agg (.cons (.d c55) .nil)) (.cons (.c (.d .bool)) .nil),(Int × Bool) × Bool,fun a=>a2M a.1.1 a.2.1,fun r=>((),((r.1,()),(r.2,()))),.none⟩
theorem a98:FnT Tryz.prog 85 a2N:=
 ⟨rfl,rfl,⟨trivial,⟨_,Tryz.func85,rfl,rfl⟩,fun w I F args xs hIn hgl hargs hF hp=>by
  obtain⟨a,r,rfl,hr⟩:=hp
  obtain⟨⟨c,u1⟩,i,u⟩:=a
  change a2r at c
  change Int at i
  have hr':a2M c i=some r:=hr
  obtain⟨hc,hr'⟩:=X3 hr'
  obtain⟨c1,c2⟩:=of_decide_eq_true hc
  obtain⟨n,rfl⟩:=Int.eq_ofNat_of_zero_le c1
  injection hr' with hr'
  rw [Int.toNat_natCast] at hr'
  replace hargs:OAs I w [.agg ((b7V c).map fun v=> .d (.v v)),.c (.d (.v (.int .i64 (n:Int))))] args.toList F:=hargs
  simp only [OAs,OAr] at hargs
  obtain⟨x,q1,F1,F2,e1,⟨vs,rfl,h1⟩,⟨y,q2,F3,F4,rfl,h2,⟨rfl,rfl⟩,rfl⟩,rfl⟩:=hargs
  obtain⟨h3,rfl⟩:=a7R h1
  simp only [OCr,DVr] at h2
  obtain⟨rfl,rfl,_⟩:=h2
  have hvs:vs=(b7V c).toArray:=by rw [<-h3]
  subst hvs
  have ha:args= #[.agg (b7V c).toArray,.int .i64 (n:Int)]:=by cases args;simp only at e1;subst e1;rfl
  subst ha
  refine Calls.mono (b7s c w n (by omega)) fun e w' h=>?_
  rw [hr'] at h
  obtain⟨rfl,hg⟩:=h
  obtain⟨⟨r0,r1⟩,r2⟩:=r
  refine⟨I,[.agg #[.int .u64 r0,.bool r1],.bool r2],[],[],rfl,⟨⟨hg.os,hg.tape,hg.output,hg.size,fun k hk _=>hg.block k hk (by simp)⟩,fun _ _ h=>h,fun b o hi=>World.cell?_of_block (hg.block b (hIn b o hi) (by simp)),fun _ _ h=> .inl h,fun b o hi=>Nat.lt_of_lt_of_le (hIn b o hi) hg.size,?_,?_,by simp,by simp⟩⟩
  ·rw [TFn.post_of rfl hr]
   exact⟨rfl,rfl⟩
  ·have e1:(a2N.spec.res (a2N.args.oas ((c,u1),(n:Int),u)))=[.agg [.d (.v (.int .u64 r0)),.d (.v (.bool r1))],.c (.d (.v (.bool r2)))]:=by
    rw [TFn.res_of rfl hr];rfl
   rw [e1]
   simp only [OAs,OAr,OCs,OCr,DVr]
   exact⟨_,_,[],[],rfl,⟨_,rfl,_,_,[],[],rfl,⟨rfl,rfl,rfl⟩,⟨_,_,[],[],rfl,⟨rfl,rfl,rfl⟩,⟨rfl,rfl⟩,rfl⟩,rfl⟩,⟨_,_,[],[],rfl,⟨rfl,rfl,rfl⟩,⟨rfl,rfl⟩,rfl⟩,rfl⟩⟩⟩
end Go.Proofs.YtacnfjjkhpkloaaGreat.Am
namespace Go.Proofs.YtacnfjjkhpkloaaGreat.Am
open Go Go.Proofs Go.RowKit Go.MapKept
theorem a34 {w w1:World} {b:Nat} {C D:Array Value} {t u:TypeId} (hb:w.heap[b]?=some (.cells C t (0,0))) (h:(w.alloc (.cells D u)).grownBy w1 none):w1.heap[b]?=some (.cells C t (0,0))/\w1.heap[w.heap.size]?=some (.cells D u (0,0)):=by
 have hl:b < w.heap.size:=(Array.getElem?_eq_some_iff.1 hb).1
 have hs:(w.alloc (.cells D u)).heap.size=w.heap.size + 1:=by simp
 refine⟨(h.block _ (by omega) (by simp)).trans (((H4 w (.cells D u)).block b hl (by simp)).trans hb),(h.block _ (by omega) (by simp)).trans (heap_alloc_new w _)⟩
theorem a2O (n:Int):wrap64 n=C6 n:=by unfold wrap64 C6;rw [IntKind.wrap_i64]
theorem a03 {w:World} {b:Nat} {C:Array Value} {t:TypeId} (h:w.heap[b]?=some (.cells C t (0,0))) (i:Nat) (x:Value):(w.setCell ⟨b,i,none⟩ x).heap[b]?=some (.cells (C.setIfInBounds i x) t (0,0)):=by
 simp [World.setCell,Array.getElem?_modify,h]
theorem a04 {w w1:World} {b:Nat} {C D:Array Value} {t u:TypeId} (_hb:w.heap[b]?=some (.cells C t (0,0))) (h:(w.alloc (.cells D u)).grownBy w1 none) (i:Nat) (x:Value):w.grownBy (w1.setCell ⟨b,i,none⟩ x) (some b):=by
 have hs:(w.alloc (.cells D u)).heap.size=w.heap.size + 1:=by simp
 have hsz:=h.size
 refine⟨h.os,h.tape,h.output,?_,fun k hk hne=>?_⟩
 ·simp [World.setCell];omega
 ·have e:(w1.setCell ⟨b,i,none⟩ x).heap[k]?=w1.heap[k]?:=by
   simp only [World.setCell,Array.getElem?_modify]
   rw [if_neg (fun e=>hne (by rw [e]))]
  rw [e,h.block k (by omega) (by simp)]
  exact(H4 w (.cells D u)).block k hk (by simp)
set_option maxHeartbeats 4000000 in
set_option maxRecDepth 100000 in
theorem c8e {a0 a1 a2 a3 a4 a5:Int} {kp:Bool} {a7 a8 pr a10 a11:Int} {w:World} {b:Nat} {ty:TypeId} (hb:w.heap[b]?=some (.cells #[.int .i64 a0,.int .i64 a1,.int .i64 a2,.int .i64 a3,.int .i64 a4,.int .i64 a5,.bool kp,.int .i64 a7,.int .i64 a8,.int .u64 pr,.int .i64 a10,.int .i64 a11] ty (0,0))) (n:Int) (m:Bool):Calls Tryz.prog 87 #[.pointer (some ⟨b,0,none⟩),.int .i64 0,.agg #[.int .u64 n,.bool m]] w fun e w'=>
  e= .returned (.tuple #[])/\w'.heap[b]?=some (.cells #[.int .i64 (if m then -1 else C6 n),.int .i64 a1,.int .i64 a2,.int .i64 a3,.int .i64 a4,.int .i64 a5,.bool kp,.int .i64 a7,.int .i64 a8,.int .u64 pr,.int .i64 a10,.int .i64 a11] ty (0,0))/\w.grownBy w' (some b):=by
 have hidx:=b9L
 cases m
 ·go_enter Tryz.func87,Tryz.ntmps87
  go_wp2_with (first | (go_at_call 108;refine(C1 _ _).mono ?_;rintro e w1 ⟨rfl,hg1⟩;obtain⟨hA,hB⟩:=a34 hb hg1;have k0:=o8 hA 0 rfl;have k1:=o8 hB 0 rfl;have k2:=o8 hB 1 rfl;have k3:=B5 hA 0))
  go_end0
  exact⟨rfl,(a03 hA 0 _).trans (by rw [a2O];rfl),a04 hb hg1 _ _⟩
 ·go_enter Tryz.func87,Tryz.ntmps87
  go_wp2_with (first | (go_at_call 108;refine(C1 _ _).mono ?_;rintro e w1 ⟨rfl,hg1⟩;obtain⟨hA,hB⟩:=a34 hb hg1;have k0:=o8 hA 0 rfl;have k1:=o8 hB 0 rfl;have k2:=o8 hB 1 rfl;have k3:=B5 hA 0))
  go_end0
  exact⟨rfl,(a03 hA 0 _).trans rfl,a04 hb hg1 _ _⟩
set_option maxHeartbeats 4000000 in
set_option maxRecDepth 100000 in
theorem c8f {a0 a1 a2 a3 a4 a5:Int} {kp:Bool} {a7 a8 pr a10 a11:Int} {w:World} {b:Nat} {ty:TypeId} (hb:w.heap[b]?=some (.cells #[.int .i64 a0,.int .i64 a1,.int .i64 a2,.int .i64 a3,.int .i64 a4,.int .i64 a5,.bool kp,.int .i64 a7,.int .i64 a8,.int .u64 pr,.int .i64 a10,.int .i64 a11] ty (0,0))) (n:Int) (m:Bool):Calls Tryz.prog 87 #[.pointer (some ⟨b,0,none⟩),.int .i64 1,.agg #[.int .u64 n,.bool m]] w fun e w'=>
  e= .returned (.tuple #[])/\w'.heap[b]?=some (.cells #[.int .i64 a0,.int .i64 (if m then -1 else C6 n),.int .i64 a2,.int .i64 a3,.int .i64 a4,.int .i64 a5,.bool kp,.int .i64 a7,.int .i64 a8,.int .u64 pr,.int .i64 a10,.int .i64 a11] ty (0,0))/\w.grownBy w' (some b):=by
 have hidx:=b9M
 cases m
 ·go_enter Tryz.func87,Tryz.ntmps87
  go_wp2_with (first | (go_at_call 108;refine(C1 _ _).mono ?_;rintro e w1 ⟨rfl,hg1⟩;obtain⟨hA,hB⟩:=a34 hb hg1;have k0:=o8 hA 1 rfl;have k1:=o8 hB 0 rfl;have k2:=o8 hB 1 rfl;have k3:=B5 hA 1))
  go_end0
  exact⟨rfl,(a03 hA 1 _).trans (by rw [a2O];rfl),a04 hb hg1 _ _⟩
 ·go_enter Tryz.func87,Tryz.ntmps87
  go_wp2_with (first | (go_at_call 108;refine(C1 _ _).mono ?_;rintro e w1 ⟨rfl,hg1⟩;obtain⟨hA,hB⟩:=a34 hb hg1;have k0:=o8 hA 1 rfl;have k1:=o8 hB 0 rfl;have k2:=o8 hB 1 rfl;have k3:=B5 hA 1))
  go_end0
  exact⟨rfl,(a03 hA 1 _).trans rfl,a04 hb hg1 _ _⟩
set_option maxHeartbeats 4000000 in
set_option maxRecDepth 100000 in
theorem c8g {a0 a1 a2 a3 a4 a5:Int} {kp:Bool} {a7 a8 pr a10 a11:Int} {w:World} {b:Nat} {ty:TypeId} (hb:w.heap[b]?=some (.cells #[.int .i64 a0,.int .i64 a1,.int .i64 a2,.int .i64 a3,.int .i64 a4,.int .i64 a5,.bool kp,.int .i64 a7,.int .i64 a8,.int .u64 pr,.int .i64 a10,.int .i64 a11] ty (0,0))) (n:Int) (m:Bool):Calls Tryz.prog 87 #[.pointer (some ⟨b,0,none⟩),.int .i64 2,.agg #[.int .u64 n,.bool m]] w fun e w'=>
  e= .returned (.tuple #[])/\w'.heap[b]?=some (.cells #[.int .i64 a0,.int .i64 a1,.int .i64 (if m then -1 else C6 n),.int .i64 a3,.int .i64 a4,.int .i64 a5,.bool kp,.int .i64 a7,.int .i64 a8,.int .u64 pr,.int .i64 a10,.int .i64 a11] ty (0,0))/\w.grownBy w' (some b):=by
 have hidx:=b9N
 cases m
 ·go_enter Tryz.func87,Tryz.ntmps87
  go_wp2_with (first | (go_at_call 108;refine(C1 _ _).mono ?_;rintro e w1 ⟨rfl,hg1⟩;obtain⟨hA,hB⟩:=a34 hb hg1;have k0:=o8 hA 2 rfl;have k1:=o8 hB 0 rfl;have k2:=o8 hB 1 rfl;have k3:=B5 hA 2))
  go_end0
  exact⟨rfl,(a03 hA 2 _).trans (by rw [a2O];rfl),a04 hb hg1 _ _⟩
 ·go_enter Tryz.func87,Tryz.ntmps87
  go_wp2_with (first | (go_at_call 108;refine(C1 _ _).mono ?_;rintro e w1 ⟨rfl,hg1⟩;obtain⟨hA,hB⟩:=a34 hb hg1;have k0:=o8 hA 2 rfl;have k1:=o8 hB 0 rfl;have k2:=o8 hB 1 rfl;have k3:=B5 hA 2))
  go_end0
  exact⟨rfl,(a03 hA 2 _).trans rfl,a04 hb hg1 _ _⟩
set_option maxHeartbeats 4000000 in
set_option maxRecDepth 100000 in
theorem c8h {a0 a1 a2 a3 a4 a5:Int} {kp:Bool} {a7 a8 pr a10 a11:Int} {w:World} {b:Nat} {ty:TypeId} (hb:w.heap[b]?=some (.cells #[.int .i64 a0,.int .i64 a1,.int .i64 a2,.int .i64 a3,.int .i64 a4,.int .i64 a5,.bool kp,.int .i64 a7,.int .i64 a8,.int .u64 pr,.int .i64 a10,.int .i64 a11] ty (0,0))) (n:Int) (m:Bool):Calls Tryz.prog 87 #[.pointer (some ⟨b,0,none⟩),.int .i64 3,.agg #[.int .u64 n,.bool m]] w fun e w'=>
  e= .returned (.tuple #[])/\w'.heap[b]?=some (.cells #[.int .i64 a0,.int .i64 a1,.int .i64 a2,.int .i64 (if m then -1 else C6 n),.int .i64 a4,.int .i64 a5,.bool kp,.int .i64 a7,.int .i64 a8,.int .u64 pr,.int .i64 a10,.int .i64 a11] ty (0,0))/\w.grownBy w' (some b):=by
 have hidx:=b9O
 cases m
 ·go_enter Tryz.func87,Tryz.ntmps87
  go_wp2_with (first | (go_at_call 108;refine(C1 _ _).mono ?_;rintro e w1 ⟨rfl,hg1⟩;obtain⟨hA,hB⟩:=a34 hb hg1;have k0:=o8 hA 3 rfl;have k1:=o8 hB 0 rfl;have k2:=o8 hB 1 rfl;have k3:=B5 hA 3))
  go_end0
  exact⟨rfl,(a03 hA 3 _).trans (by rw [a2O];rfl),a04 hb hg1 _ _⟩
 ·go_enter Tryz.func87,Tryz.ntmps87
  go_wp2_with (first | (go_at_call 108;refine(C1 _ _).mono ?_;rintro e w1 ⟨rfl,hg1⟩;obtain⟨hA,hB⟩:=a34 hb hg1;have k0:=o8 hA 3 rfl;have k1:=o8 hB 0 rfl;have k2:=o8 hB 1 rfl;have k3:=B5 hA 3))
  go_end0
  exact⟨rfl,(a03 hA 3 _).trans rfl,a04 hb hg1 _ _⟩
set_option maxHeartbeats 4000000 in
set_option maxRecDepth 100000 in
theorem c8i {a0 a1 a2 a3 a4 a5:Int} {kp:Bool} {a7 a8 pr a10 a11:Int} {w:World} {b:Nat} {ty:TypeId} (hb:w.heap[b]?=some (.cells #[.int .i64 a0,.int .i64 a1,.int .i64 a2,.int .i64 a3,.int .i64 a4,.int .i64 a5,.bool kp,.int .i64 a7,.int .i64 a8,.int .u64 pr,.int .i64 a10,.int .i64 a11] ty (0,0))) (n:Int) (m:Bool):Calls Tryz.prog 87 #[.pointer (some ⟨b,0,none⟩),.int .i64 4,.agg #[.int .u64 n,.bool m]] w fun e w'=>
  e= .returned (.tuple #[])/\w'.heap[b]?=some (.cells #[.int .i64 a0,.int .i64 a1,.int .i64 a2,.int .i64 a3,.int .i64 (if m then -1 else C6 n),.int .i64 a5,.bool kp,.int .i64 a7,.int .i64 a8,.int .u64 pr,.int .i64 a10,.int .i64 a11] ty (0,0))/\w.grownBy w' (some b):=by
 have hidx:=b9P
 cases m
 ·go_enter Tryz.func87,Tryz.ntmps87
  go_wp2_with (first | (go_at_call 108;refine(C1 _ _).mono ?_;rintro e w1 ⟨rfl,hg1⟩;obtain⟨hA,hB⟩:=a34 hb hg1;have k0:=o8 hA 4 rfl;have k1:=o8 hB 0 rfl;have k2:=o8 hB 1 rfl;have k3:=B5 hA 4))
  go_end0
  exact⟨rfl,(a03 hA 4 _).trans (by rw [a2O];rfl),a04 hb hg1 _ _⟩
 ·go_enter Tryz.func87,Tryz.ntmps87
  go_wp2_with (first | (go_at_call 108;refine(C1 _ _).mono ?_;rintro e w1 ⟨rfl,hg1⟩;obtain⟨hA,hB⟩:=a34 hb hg1;have k0:=o8 hA 4 rfl;have k1:=o8 hB 0 rfl;have k2:=o8 hB 1 rfl;have k3:=B5 hA 4))
  go_end0
  exact⟨rfl,(a03 hA 4 _).trans rfl,a04 hb hg1 _ _⟩
set_option maxHeartbeats 4000000 in
set_option maxRecDepth 100000 in
theorem c8j {a0 a1 a2 a3 a4 a5:Int} {kp:Bool} {a7 a8 pr a10 a11:Int} {w:World} {b:Nat} {ty:TypeId} (hb:w.heap[b]?=some (.cells #[.int .i64 a0,.int .i64 a1,.int .i64 a2,.int .i64 a3,.int .i64 a4,.int .i64 a5,.bool kp,.int .i64 a7,.int .i64 a8,.int .u64 pr,.int .i64 a10,.int .i64 a11] ty (0,0))) (n:Int) (m:Bool):Calls Tryz.prog 87 #[.pointer (some ⟨b,0,none⟩),.int .i64 5,.agg #[.int .u64 n,.bool m]] w fun e w'=>
  e= .returned (.tuple #[])/\w'.heap[b]?=some (.cells #[.int .i64 a0,.int .i64 a1,.int .i64 a2,.int .i64 a3,.int .i64 a4,.int .i64 (if m then -1 else C6 n),.bool kp,.int .i64 a7,.int .i64 a8,.int .u64 pr,.int .i64 a10,.int .i64 a11] ty (0,0))/\w.grownBy w' (some b):=by
 have hidx:=b9Q
 cases m
 ·go_enter Tryz.func87,Tryz.ntmps87
  go_wp2_with (first | (go_at_call 108;refine(C1 _ _).mono ?_;rintro e w1 ⟨rfl,hg1⟩;obtain⟨hA,hB⟩:=a34 hb hg1;have k0:=o8 hA 5 rfl;have k1:=o8 hB 0 rfl;have k2:=o8 hB 1 rfl;have k3:=B5 hA 5))
  go_end0
  exact⟨rfl,(a03 hA 5 _).trans (by rw [a2O];rfl),a04 hb hg1 _ _⟩
 ·go_enter Tryz.func87,Tryz.ntmps87
  go_wp2_with (first | (go_at_call 108;refine(C1 _ _).mono ?_;rintro e w1 ⟨rfl,hg1⟩;obtain⟨hA,hB⟩:=a34 hb hg1;have k0:=o8 hA 5 rfl;have k1:=o8 hB 0 rfl;have k2:=o8 hB 1 rfl;have k3:=B5 hA 5))
  go_end0
  exact⟨rfl,(a03 hA 5 _).trans rfl,a04 hb hg1 _ _⟩
set_option maxHeartbeats 4000000 in
set_option maxRecDepth 100000 in
theorem c8k {a0 a1 a2 a3 a4 a5:Int} {kp:Bool} {a7 a8 pr a10 a11:Int} {w:World} {b:Nat} {ty:TypeId} (hb:w.heap[b]?=some (.cells #[.int .i64 a0,.int .i64 a1,.int .i64 a2,.int .i64 a3,.int .i64 a4,.int .i64 a5,.bool kp,.int .i64 a7,.int .i64 a8,.int .u64 pr,.int .i64 a10,.int .i64 a11] ty (0,0))) (n:Int) (m:Bool):Calls Tryz.prog 87 #[.pointer (some ⟨b,0,none⟩),.int .i64 6,.agg #[.int .u64 n,.bool m]] w fun e w'=>
  e= .returned (.tuple #[])/\w'.heap[b]?=some (.cells #[.int .i64 a0,.int .i64 a1,.int .i64 a2,.int .i64 a3,.int .i64 a4,.int .i64 a5,.bool (decide (n=1)),.int .i64 a7,.int .i64 a8,.int .u64 pr,.int .i64 a10,.int .i64 a11] ty (0,0))/\w.grownBy w' (some b):=by
 have hidx:=b9R
 go_enter Tryz.func87,Tryz.ntmps87
 go_wp2_with (first | (go_at_call 108;refine(C1 _ _).mono ?_;rintro e w1 ⟨rfl,hg1⟩;obtain⟨hA,hB⟩:=a34 hb hg1;have k0:=o8 hA 6 rfl;have k1:=o8 hB 0 rfl;have k2:=o8 hB 1 rfl;have k3:=B5 hA 6))
 go_end0
 exact⟨rfl,(a03 hA 6 _).trans rfl,a04 hb hg1 _ _⟩
set_option maxHeartbeats 4000000 in
set_option maxRecDepth 100000 in
theorem c8l {a0 a1 a2 a3 a4 a5:Int} {kp:Bool} {a7 a8 pr a10 a11:Int} {w:World} {b:Nat} {ty:TypeId} (hb:w.heap[b]?=some (.cells #[.int .i64 a0,.int .i64 a1,.int .i64 a2,.int .i64 a3,.int .i64 a4,.int .i64 a5,.bool kp,.int .i64 a7,.int .i64 a8,.int .u64 pr,.int .i64 a10,.int .i64 a11] ty (0,0))) (n:Int) (m:Bool):Calls Tryz.prog 87 #[.pointer (some ⟨b,0,none⟩),.int .i64 7,.agg #[.int .u64 n,.bool m]] w fun e w'=>
  e= .returned (.tuple #[])/\w'.heap[b]?=some (.cells #[.int .i64 a0,.int .i64 a1,.int .i64 a2,.int .i64 a3,.int .i64 a4,.int .i64 a5,.bool kp,.int .i64 (if m then -1 else C6 n),.int .i64 a8,.int .u64 pr,.int .i64 a10,.int .i64 a11] ty (0,0))/\w.grownBy w' (some b):=by
 have hidx:=b9S
 cases m
 ·go_enter Tryz.func87,Tryz.ntmps87
  go_wp2_with (first | (go_at_call 108;refine(C1 _ _).mono ?_;rintro e w1 ⟨rfl,hg1⟩;obtain⟨hA,hB⟩:=a34 hb hg1;have k0:=o8 hA 7 rfl;have k1:=o8 hB 0 rfl;have k2:=o8 hB 1 rfl;have k3:=B5 hA 7))
  go_end0
  exact⟨rfl,(a03 hA 7 _).trans (by rw [a2O];rfl),a04 hb hg1 _ _⟩
 ·go_enter Tryz.func87,Tryz.ntmps87
  go_wp2_with (first | (go_at_call 108;refine(C1 _ _).mono ?_;rintro e w1 ⟨rfl,hg1⟩;obtain⟨hA,hB⟩:=a34 hb hg1;have k0:=o8 hA 7 rfl;have k1:=o8 hB 0 rfl;have k2:=o8 hB 1 rfl;have k3:=B5 hA 7))
  go_end0
  exact⟨rfl,(a03 hA 7 _).trans rfl,a04 hb hg1 _ _⟩
set_option maxHeartbeats 4000000 in
set_option maxRecDepth 100000 in
theorem c8m {a0 a1 a2 a3 a4 a5:Int} {kp:Bool} {a7 a8 pr a10 a11:Int} {w:World} {b:Nat} {ty:TypeId} (hb:w.heap[b]?=some (.cells #[.int .i64 a0,.int .i64 a1,.int .i64 a2,.int .i64 a3,.int .i64 a4,.int .i64 a5,.bool kp,.int .i64 a7,.int .i64 a8,.int .u64 pr,.int .i64 a10,.int .i64 a11] ty (0,0))) (n:Int) (m:Bool):Calls Tryz.prog 87 #[.pointer (some ⟨b,0,none⟩),.int .i64 8,.agg #[.int .u64 n,.bool m]] w fun e w'=>
  e= .returned (.tuple #[])/\w'.heap[b]?=some (.cells #[.int .i64 a0,.int .i64 a1,.int .i64 a2,.int .i64 a3,.int .i64 a4,.int .i64 a5,.bool kp,.int .i64 a7,.int .i64 (if m then -1 else C6 n),.int .u64 pr,.int .i64 a10,.int .i64 a11] ty (0,0))/\w.grownBy w' (some b):=by
 have hidx:=b9T
 cases m
 ·go_enter Tryz.func87,Tryz.ntmps87
  go_wp2_with (first | (go_at_call 108;refine(C1 _ _).mono ?_;rintro e w1 ⟨rfl,hg1⟩;obtain⟨hA,hB⟩:=a34 hb hg1;have k0:=o8 hA 8 rfl;have k1:=o8 hB 0 rfl;have k2:=o8 hB 1 rfl;have k3:=B5 hA 8))
  go_end0
  exact⟨rfl,(a03 hA 8 _).trans (by rw [a2O];rfl),a04 hb hg1 _ _⟩
 ·go_enter Tryz.func87,Tryz.ntmps87
  go_wp2_with (first | (go_at_call 108;refine(C1 _ _).mono ?_;rintro e w1 ⟨rfl,hg1⟩;obtain⟨hA,hB⟩:=a34 hb hg1;have k0:=o8 hA 8 rfl;have k1:=o8 hB 0 rfl;have k2:=o8 hB 1 rfl;have k3:=B5 hA 8))
  go_end0
  exact⟨rfl,(a03 hA 8 _).trans rfl,a04 hb hg1 _ _⟩
set_option maxHeartbeats 4000000 in
set_option maxRecDepth 100000 in
theorem c8n {a0 a1 a2 a3 a4 a5:Int} {kp:Bool} {a7 a8 pr a10 a11:Int} {w:World} {b:Nat} {ty:TypeId} (hb:w.heap[b]?=some (.cells #[.int .i64 a0,.int .i64 a1,.int .i64 a2,.int .i64 a3,.int .i64 a4,.int .i64 a5,.bool kp,.int .i64 a7,.int .i64 a8,.int .u64 pr,.int .i64 a10,.int .i64 a11] ty (0,0))) (n:Int) (m:Bool):Calls Tryz.prog 87 #[.pointer (some ⟨b,0,none⟩),.int .i64 9,.agg #[.int .u64 n,.bool m]] w fun e w'=>
  e= .returned (.tuple #[])/\w'.heap[b]?=some (.cells #[.int .i64 a0,.int .i64 a1,.int .i64 a2,.int .i64 a3,.int .i64 a4,.int .i64 a5,.bool kp,.int .i64 a7,.int .i64 a8,.int .u64 n,.int .i64 a10,.int .i64 a11] ty (0,0))/\w.grownBy w' (some b):=by
 have hidx:=b9U
 go_enter Tryz.func87,Tryz.ntmps87
 go_wp2_with (first | (go_at_call 108;refine(C1 _ _).mono ?_;rintro e w1 ⟨rfl,hg1⟩;obtain⟨hA,hB⟩:=a34 hb hg1;have k0:=o8 hA 9 rfl;have k1:=o8 hB 0 rfl;have k2:=o8 hB 1 rfl;have k3:=B5 hA 9))
 go_end0
 exact⟨rfl,(a03 hA 9 _).trans rfl,a04 hb hg1 _ _⟩
set_option maxHeartbeats 4000000 in
set_option maxRecDepth 100000 in
theorem c56 {a0 a1 a2 a3 a4 a5:Int} {kp:Bool} {a7 a8 pr a10 a11:Int} {w:World} {b:Nat} {ty:TypeId} (hb:w.heap[b]?=some (.cells #[.int .i64 a0,.int .i64 a1,.int .i64 a2,.int .i64 a3,.int .i64 a4,.int .i64 a5,.bool kp,.int .i64 a7,.int .i64 a8,.int .u64 pr,.int .i64 a10,.int .i64 a11] ty (0,0))) (n:Int) (m:Bool):Calls Tryz.prog 87 #[.pointer (some ⟨b,0,none⟩),.int .i64 10,.agg #[.int .u64 n,.bool m]] w fun e w'=>
  e= .returned (.tuple #[])/\w'.heap[b]?=some (.cells #[.int .i64 a0,.int .i64 a1,.int .i64 a2,.int .i64 a3,.int .i64 a4,.int .i64 a5,.bool kp,.int .i64 a7,.int .i64 a8,.int .u64 pr,.int .i64 (if m then -1 else C6 n),.int .i64 a11] ty (0,0))/\w.grownBy w' (some b):=by
 have hidx:=b6m
 cases m
 ·go_enter Tryz.func87,Tryz.ntmps87
  go_wp2_with (first | (go_at_call 108;refine(C1 _ _).mono ?_;rintro e w1 ⟨rfl,hg1⟩;obtain⟨hA,hB⟩:=a34 hb hg1;have k0:=o8 hA 10 rfl;have k1:=o8 hB 0 rfl;have k2:=o8 hB 1 rfl;have k3:=B5 hA 10))
  go_end0
  exact⟨rfl,(a03 hA 10 _).trans (by rw [a2O];rfl),a04 hb hg1 _ _⟩
 ·go_enter Tryz.func87,Tryz.ntmps87
  go_wp2_with (first | (go_at_call 108;refine(C1 _ _).mono ?_;rintro e w1 ⟨rfl,hg1⟩;obtain⟨hA,hB⟩:=a34 hb hg1;have k0:=o8 hA 10 rfl;have k1:=o8 hB 0 rfl;have k2:=o8 hB 1 rfl;have k3:=B5 hA 10))
  go_end0
  exact⟨rfl,(a03 hA 10 _).trans rfl,a04 hb hg1 _ _⟩
set_option maxHeartbeats 4000000 in
set_option maxRecDepth 100000 in
theorem c57 {a0 a1 a2 a3 a4 a5:Int} {kp:Bool} {a7 a8 pr a10 a11:Int} {w:World} {b:Nat} {ty:TypeId} (hb:w.heap[b]?=some (.cells #[.int .i64 a0,.int .i64 a1,.int .i64 a2,.int .i64 a3,.int .i64 a4,.int .i64 a5,.bool kp,.int .i64 a7,.int .i64 a8,.int .u64 pr,.int .i64 a10,.int .i64 a11] ty (0,0))) (n:Int) (m:Bool):Calls Tryz.prog 87 #[.pointer (some ⟨b,0,none⟩),.int .i64 11,.agg #[.int .u64 n,.bool m]] w fun e w'=>
  e= .returned (.tuple #[])/\w'.heap[b]?=some (.cells #[.int .i64 a0,.int .i64 a1,.int .i64 a2,.int .i64 a3,.int .i64 a4,.int .i64 a5,.bool kp,.int .i64 a7,.int .i64 a8,.int .u64 pr,.int .i64 a10,.int .i64 (if m then -1 else C6 n)] ty (0,0))/\w.grownBy w' (some b):=by
 have hidx:=b6n
 cases m
 ·go_enter Tryz.func87,Tryz.ntmps87
  go_wp2_with (first | (go_at_call 108;refine(C1 _ _).mono ?_;rintro e w1 ⟨rfl,hg1⟩;obtain⟨hA,hB⟩:=a34 hb hg1;have k0:=o8 hA 11 rfl;have k1:=o8 hB 0 rfl;have k2:=o8 hB 1 rfl;have k3:=B5 hA 11))
  go_end0
  exact⟨rfl,(a03 hA 11 _).trans (by rw [a2O];rfl),a04 hb hg1 _ _⟩
 ·go_enter Tryz.func87,Tryz.ntmps87
  go_wp2_with (first | (go_at_call 108;refine(C1 _ _).mono ?_;rintro e w1 ⟨rfl,hg1⟩;obtain⟨hA,hB⟩:=a34 hb hg1;have k0:=o8 hA 11 rfl;have k1:=o8 hB 0 rfl;have k2:=o8 hB 1 rfl;have k3:=B5 hA 11))
  go_end0
  exact⟨rfl,(a03 hA 11 _).trans rfl,a04 hb hg1 _ _⟩
end Go.Proofs.YtacnfjjkhpkloaaGreat.Am
