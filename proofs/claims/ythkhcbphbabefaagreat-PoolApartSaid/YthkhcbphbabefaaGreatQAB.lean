/- Texts laid together: Config, ConfigV, ConfigF, ConfigS, ConfigT, SortF, HeapLay. No conditions. -/
import Derived.Test.YthkhcbphbabefaaGreatProg
import Derived.Test.YthkhcbphbabefaaGreatQAA
import Derived.Deep.RegionHeld3
import Derived.Lib.Hide
import Derived.Shelf.SlSortCmp.NoneTotal
import Derived.Shelf.SlGeneric
import Derived.Ground.SlsfProg
namespace Go.Proofs.YthkhcbphbabefaaGreat.Am
open Go Go.Proofs Go.RowKit Go.MapKept
theorem DI:(Tryz.prog.info? 149).map (·.size)=some 12:=by kernel_rfl
set_option maxHeartbeats 4000000 in
set_option maxRecDepth 100000 in
theorem B4(b:Nat) (w:World):Calls Tryz.prog 76 #[.pointer (some ⟨b,0,none⟩)] w λe w'=>e= .returned (.agg #[.pointer (some ⟨b,0,none⟩),.pointer (some ⟨b,1,none⟩),.pointer (some ⟨b,2,none⟩),.pointer (some ⟨b,3,none⟩),.pointer (some ⟨b,4,none⟩),.pointer (some ⟨b,5,none⟩),.pointer none,.pointer (some ⟨b,7,none⟩),.pointer (some ⟨b,8,none⟩),.pointer none,.pointer (some ⟨b,10,none⟩),.pointer (some ⟨b,11,none⟩)])/\w.grownBy w' none:=by
 go_enter Tryz.func76,Tryz.ntmps76
 go_wp2
 go_region
 go_wp2
 refine bodyPost_ret (results_cell_row (P:=Tryz.prog) Tryz.results76 _ _ w.heap.size 149 _ (0,0) _ rfl (heap_alloc_new w _) Tryz.underlying149 rfl DI) rfl ?_;exact⟨rfl,⟨rfl,rfl,rfl,(D9 w _).size,(D9 w _).block⟩⟩
theorem F7:(Tryz.prog.info? 99).map (·.size)=some 2:=by kernel_rfl
set_option maxHeartbeats 4000000 in
set_option maxRecDepth 100000 in
theorem B7(n:Int) (w:World):Calls Tryz.prog 75 #[.int .i64 n] w λe w'=>e= .returned (.agg #[.int .u64 (dX n),.bool false])/\w.grownBy w' none:=by
 go_enter Tryz.func75,Tryz.ntmps75
 go_wp2
 refine bodyPost_ret (results_cell_row (P:=Tryz.prog) Tryz.results75 _ _ w.heap.size 99 _ (0,0) _ rfl (heap_alloc_new w _) Tryz.underlying99 rfl F7) rfl ?_;exact⟨rfl,⟨rfl,rfl,rfl,(D9 w _).size,(D9 w _).block⟩⟩
theorem H7{w w1:World}{C D:Array Value}{t u:TypeId}(h:((w.alloc (.cells C t)).alloc (.cells D u)).grownBy w1 none):w1.heap[w.heap.size]?=some (.cells C t (0,0))/\w1.heap[w.heap.size+1]?=some (.cells D u (0,0)):=by
 have hs:((w.alloc (.cells C t)).alloc (.cells D u)).heap.size=w.heap.size+2:=by simp
 refine⟨(h.block _ (by omega) (by simp)).trans ?_,(h.block _ (by omega) (by simp)).trans ?_⟩
 ·rw[((D9 (w.alloc (.cells C t)) (.cells D u)).block w.heap.size (by simp) (by simp))];exact heap_alloc_new w _
 ·have:=heap_alloc_new (w.alloc (.cells C t)) (.cells D u);simpa using this
theorem o6{w:World}{b:Nat}{C:Array Value}{t:TypeId}(h:w.heap[b]?=some (.cells C t (0,0))) (j:Nat){v:Value}(hv:C[j]?=some v):w.cell? ⟨b,j,none⟩=some v:=by simp[World.cell?,h,hv]
theorem B1{w:World}{b:Nat}{C:Array Value}{t:TypeId}(h:w.heap[b]?=some (.cells C t (0,0))) (j:Nat):w.frozen? ⟨b,j,none⟩=false:=by simp[World.frozen?,h]
theorem D7{fn:Func}{p u:Tmp}{ty:TypeId}(h:fn.results= #[.cell p ty,.tmp u]) (tmps:Array Value) (w:World) (g:Nat) (t:TypeId) (cs:Array Value) (fr:Nat×Nat) (fs:Array Field)
  (hp:tmps.getD p undef= .pointer (some ⟨g,0,none⟩)) (hg:w.heap[g]?=some (.cells cs t fr))
  (hu:(Tryz.prog).underlying ty=some (.struct fs)) (hi:((Tryz.prog).info? ty).map (·.size)=some cs.size) :
  (results fn tmps).run Tryz.prog w= .ok (.tuple #[.agg cs,tmps.getD u undef]) w:=by
 rw[results_cell_tmp h,hp];simp[asAddr,run_loadVar_row w g t ty cs fr (.struct fs) hg hu rfl hi]
theorem L6{w:World}{b:Nat}{x y u v:Value}{ty:TypeId}(h:w.heap[b]?=some (.cells #[x,y] ty (0,0))):((w.setCell ⟨b,0,none⟩ u).setCell ⟨b,1,none⟩ v).heap[b]?=some (.cells #[u,v] ty (0,0)):=by
 simp[World.setCell,Array.getElem?_modify,h]
theorem L7{w w1:World}{C D:Array Value}{t u:TypeId}(h:((w.alloc (.cells C t)).alloc (.cells D u)).grownBy w1 none) (x y:Value):w.grownBy ((w1.setCell ⟨w.heap.size+1,0,none⟩ x).setCell ⟨w.heap.size+1,1,none⟩ y) none:=by
 have hs:((w.alloc (.cells C t)).alloc (.cells D u)).heap.size=w.heap.size+2:=by simp
 have hsz:=h.size;refine⟨h.os,h.tape,h.output,?_,λk hk _=>?_⟩
 ·simp[World.setCell];omega
 ·have e:((w1.setCell ⟨w.heap.size+1,0,none⟩ x).setCell ⟨w.heap.size+1,1,none⟩ y).heap[k]?=w1.heap[k]?:=by
   simp only[World.setCell,Array.getElem?_modify];rw[Ql (by omega),Ql (by omega)]
  rw[e,h.block k (by omega) (by simp)];exact((D9 (w.alloc (.cells C t)) (.cells D u)).block k (by simp;omega) (by simp)).trans ((D9 w (.cells C t)).block k hk (by simp))
def U7(p:Option Int) (i:Nat) (pr:Int) (kp:Bool):(Int×Bool)×Bool:=match p with
 |some x=>if x < -1 then((0,false),false)else if x= -1 then((0,true),true) else((dX x,false),true)
 |none=>if i=9 then((pr,false),true)else if kp then((dX 1,false),true) else((dX 0,false),true)
theorem Ap(b:Nat) (W:World):(Instr.index 149 (.agg #[.pointer (some ⟨b,0,none⟩),.pointer (some ⟨b,1,none⟩),.pointer (some ⟨b,2,none⟩),.pointer (some ⟨b,3,none⟩),.pointer (some ⟨b,4,none⟩),.pointer (some ⟨b,5,none⟩),.pointer none,.pointer (some ⟨b,7,none⟩),.pointer (some ⟨b,8,none⟩),.pointer none,.pointer (some ⟨b,10,none⟩),.pointer (some ⟨b,11,none⟩)]) (.int .i64 0)).run Tryz.prog W= .ok (.pointer (some ⟨b,0,none⟩)) W:=by kernel_rfl
theorem Aq(b:Nat) (W:World):(Instr.index 149 (.agg #[.pointer (some ⟨b,0,none⟩),.pointer (some ⟨b,1,none⟩),.pointer (some ⟨b,2,none⟩),.pointer (some ⟨b,3,none⟩),.pointer (some ⟨b,4,none⟩),.pointer (some ⟨b,5,none⟩),.pointer none,.pointer (some ⟨b,7,none⟩),.pointer (some ⟨b,8,none⟩),.pointer none,.pointer (some ⟨b,10,none⟩),.pointer (some ⟨b,11,none⟩)]) (.int .i64 1)).run Tryz.prog W= .ok (.pointer (some ⟨b,1,none⟩)) W:=by kernel_rfl
theorem Ar(b:Nat) (W:World):(Instr.index 149 (.agg #[.pointer (some ⟨b,0,none⟩),.pointer (some ⟨b,1,none⟩),.pointer (some ⟨b,2,none⟩),.pointer (some ⟨b,3,none⟩),.pointer (some ⟨b,4,none⟩),.pointer (some ⟨b,5,none⟩),.pointer none,.pointer (some ⟨b,7,none⟩),.pointer (some ⟨b,8,none⟩),.pointer none,.pointer (some ⟨b,10,none⟩),.pointer (some ⟨b,11,none⟩)]) (.int .i64 2)).run Tryz.prog W= .ok (.pointer (some ⟨b,2,none⟩)) W:=by kernel_rfl
theorem As(b:Nat) (W:World):(Instr.index 149 (.agg #[.pointer (some ⟨b,0,none⟩),.pointer (some ⟨b,1,none⟩),.pointer (some ⟨b,2,none⟩),.pointer (some ⟨b,3,none⟩),.pointer (some ⟨b,4,none⟩),.pointer (some ⟨b,5,none⟩),.pointer none,.pointer (some ⟨b,7,none⟩),.pointer (some ⟨b,8,none⟩),.pointer none,.pointer (some ⟨b,10,none⟩),.pointer (some ⟨b,11,none⟩)]) (.int .i64 3)).run Tryz.prog W= .ok (.pointer (some ⟨b,3,none⟩)) W:=by kernel_rfl
theorem Au(b:Nat) (W:World):(Instr.index 149 (.agg #[.pointer (some ⟨b,0,none⟩),.pointer (some ⟨b,1,none⟩),.pointer (some ⟨b,2,none⟩),.pointer (some ⟨b,3,none⟩),.pointer (some ⟨b,4,none⟩),.pointer (some ⟨b,5,none⟩),.pointer none,.pointer (some ⟨b,7,none⟩),.pointer (some ⟨b,8,none⟩),.pointer none,.pointer (some ⟨b,10,none⟩),.pointer (some ⟨b,11,none⟩)]) (.int .i64 4)).run Tryz.prog W= .ok (.pointer (some ⟨b,4,none⟩)) W:=by kernel_rfl
theorem Av(b:Nat) (W:World):(Instr.index 149 (.agg #[.pointer (some ⟨b,0,none⟩),.pointer (some ⟨b,1,none⟩),.pointer (some ⟨b,2,none⟩),.pointer (some ⟨b,3,none⟩),.pointer (some ⟨b,4,none⟩),.pointer (some ⟨b,5,none⟩),.pointer none,.pointer (some ⟨b,7,none⟩),.pointer (some ⟨b,8,none⟩),.pointer none,.pointer (some ⟨b,10,none⟩),.pointer (some ⟨b,11,none⟩)]) (.int .i64 5)).run Tryz.prog W= .ok (.pointer (some ⟨b,5,none⟩)) W:=by kernel_rfl
theorem Aw(b:Nat) (W:World):(Instr.index 149 (.agg #[.pointer (some ⟨b,0,none⟩),.pointer (some ⟨b,1,none⟩),.pointer (some ⟨b,2,none⟩),.pointer (some ⟨b,3,none⟩),.pointer (some ⟨b,4,none⟩),.pointer (some ⟨b,5,none⟩),.pointer none,.pointer (some ⟨b,7,none⟩),.pointer (some ⟨b,8,none⟩),.pointer none,.pointer (some ⟨b,10,none⟩),.pointer (some ⟨b,11,none⟩)]) (.int .i64 6)).run Tryz.prog W= .ok (.pointer none) W:=by kernel_rfl
theorem Ax(b:Nat) (W:World):(Instr.index 149 (.agg #[.pointer (some ⟨b,0,none⟩),.pointer (some ⟨b,1,none⟩),.pointer (some ⟨b,2,none⟩),.pointer (some ⟨b,3,none⟩),.pointer (some ⟨b,4,none⟩),.pointer (some ⟨b,5,none⟩),.pointer none,.pointer (some ⟨b,7,none⟩),.pointer (some ⟨b,8,none⟩),.pointer none,.pointer (some ⟨b,10,none⟩),.pointer (some ⟨b,11,none⟩)]) (.int .i64 7)).run Tryz.prog W= .ok (.pointer (some ⟨b,7,none⟩)) W:=by kernel_rfl
theorem Ay(b:Nat) (W:World):(Instr.index 149 (.agg #[.pointer (some ⟨b,0,none⟩),.pointer (some ⟨b,1,none⟩),.pointer (some ⟨b,2,none⟩),.pointer (some ⟨b,3,none⟩),.pointer (some ⟨b,4,none⟩),.pointer (some ⟨b,5,none⟩),.pointer none,.pointer (some ⟨b,7,none⟩),.pointer (some ⟨b,8,none⟩),.pointer none,.pointer (some ⟨b,10,none⟩),.pointer (some ⟨b,11,none⟩)]) (.int .i64 8)).run Tryz.prog W= .ok (.pointer (some ⟨b,8,none⟩)) W:=by kernel_rfl
theorem Az(b:Nat) (W:World):(Instr.index 149 (.agg #[.pointer (some ⟨b,0,none⟩),.pointer (some ⟨b,1,none⟩),.pointer (some ⟨b,2,none⟩),.pointer (some ⟨b,3,none⟩),.pointer (some ⟨b,4,none⟩),.pointer (some ⟨b,5,none⟩),.pointer none,.pointer (some ⟨b,7,none⟩),.pointer (some ⟨b,8,none⟩),.pointer none,.pointer (some ⟨b,10,none⟩),.pointer (some ⟨b,11,none⟩)]) (.int .i64 9)).run Tryz.prog W= .ok (.pointer none) W:=by kernel_rfl
theorem vS(b:Nat) (W:World):(Instr.index 149 (.agg #[.pointer (some ⟨b,0,none⟩),.pointer (some ⟨b,1,none⟩),.pointer (some ⟨b,2,none⟩),.pointer (some ⟨b,3,none⟩),.pointer (some ⟨b,4,none⟩),.pointer (some ⟨b,5,none⟩),.pointer none,.pointer (some ⟨b,7,none⟩),.pointer (some ⟨b,8,none⟩),.pointer none,.pointer (some ⟨b,10,none⟩),.pointer (some ⟨b,11,none⟩)]) (.int .i64 10)).run Tryz.prog W= .ok (.pointer (some ⟨b,10,none⟩)) W:=by kernel_rfl
theorem vT(b:Nat) (W:World):(Instr.index 149 (.agg #[.pointer (some ⟨b,0,none⟩),.pointer (some ⟨b,1,none⟩),.pointer (some ⟨b,2,none⟩),.pointer (some ⟨b,3,none⟩),.pointer (some ⟨b,4,none⟩),.pointer (some ⟨b,5,none⟩),.pointer none,.pointer (some ⟨b,7,none⟩),.pointer (some ⟨b,8,none⟩),.pointer none,.pointer (some ⟨b,10,none⟩),.pointer (some ⟨b,11,none⟩)]) (.int .i64 11)).run Tryz.prog W= .ok (.pointer (some ⟨b,11,none⟩)) W:=by kernel_rfl
set_option maxHeartbeats 4000000 in
set_option maxRecDepth 100000 in
theorem GX(a0 a1 a2 a3 a4 a5:Int) (kp:Bool) (a7 a8 pr a10 a11:Int) (w:World):Calls Tryz.prog 51 #[.agg #[.int .i64 a0,.int .i64 a1,.int .i64 a2,.int .i64 a3,.int .i64 a4,.int .i64 a5,.bool kp,.int .i64 a7,.int .i64 a8,.int .u64 pr,.int .i64 a10,.int .i64 a11],.int .i64 0] w λe w'=>
  e= .returned (.tuple #[.agg #[.int .u64 (U7 (some a0) 0 pr kp).1.1,.bool (U7 (some a0) 0 pr kp).1.2],.bool (U7 (some a0) 0 pr kp).2])/\w.grownBy w' none:=by
 have hidx:=Ap;by_cases h1:a0 < -1
 ·go_enter Tryz.func51,Tryz.ntmps51
  go_wp2_with (first|(go_at_call 76;refine(B4 _ _).mono ?_;rintro e w1 ⟨rfl,hg1⟩;obtain⟨hA,hB⟩:=H7 hg1;have k0:=o6 hA 0 rfl;have k1:=o6 hB 0 rfl;have k2:=o6 hB 1 rfl;have k3:=B1 hB 0;have k4:=B1 hB 1;have k5:=o6 hA 6 rfl)|(go_at_call 75;refine(B7 _ _).mono ?_;rintro e w2 ⟨rfl,hg2⟩;have hg3:=hg1.trans hg2;obtain⟨hA2,hB2⟩:=H7 hg3;have m1:=o6 hB2 0 rfl;have m2:=o6 hB2 1 rfl;have m3:=B1 hB2 0;have m4:=B1 hB2 1))
  refine bodyPost_ret (D7 Tryz.results51 _ _ (w.heap.size+1) 99 _ (0,0) _ rfl (L6 hB) Tryz.underlying99 F7) rfl ?_;have hv:U7 (some a0) 0 pr kp=((0,false),false):=Qx h1;rw[hv];exact⟨rfl,L7 hg1 _ _⟩
 by_cases h2:a0= -1
 ·subst h2
  go_enter Tryz.func51,Tryz.ntmps51
  go_wp2_with (first|(go_at_call 76;refine(B4 _ _).mono ?_;rintro e w1 ⟨rfl,hg1⟩;obtain⟨hA,hB⟩:=H7 hg1;have k0:=o6 hA 0 rfl;have k1:=o6 hB 0 rfl;have k2:=o6 hB 1 rfl;have k3:=B1 hB 0;have k4:=B1 hB 1;have k5:=o6 hA 6 rfl)|(go_at_call 75;refine(B7 _ _).mono ?_;rintro e w2 ⟨rfl,hg2⟩;have hg3:=hg1.trans hg2;obtain⟨hA2,hB2⟩:=H7 hg3;have m1:=o6 hB2 0 rfl;have m2:=o6 hB2 1 rfl;have m3:=B1 hB2 0;have m4:=B1 hB2 1))
  refine bodyPost_ret (D7 Tryz.results51 _ _ (w.heap.size+1) 99 _ (0,0) _ rfl (L6 hB) Tryz.underlying99 F7) rfl ?_;exact⟨rfl,L7 hg1 _ _⟩
 ·go_enter Tryz.func51,Tryz.ntmps51
  go_wp2_with (first|(go_at_call 76;refine(B4 _ _).mono ?_;rintro e w1 ⟨rfl,hg1⟩;obtain⟨hA,hB⟩:=H7 hg1;have k0:=o6 hA 0 rfl;have k1:=o6 hB 0 rfl;have k2:=o6 hB 1 rfl;have k3:=B1 hB 0;have k4:=B1 hB 1;have k5:=o6 hA 6 rfl)|(go_at_call 75;refine(B7 _ _).mono ?_;rintro e w2 ⟨rfl,hg2⟩;have hg3:=hg1.trans hg2;obtain⟨hA2,hB2⟩:=H7 hg3;have m1:=o6 hB2 0 rfl;have m2:=o6 hB2 1 rfl;have m3:=B1 hB2 0;have m4:=B1 hB2 1))
  refine bodyPost_ret (D7 Tryz.results51 _ _ (w.heap.size+1) 99 _ (0,0) _ rfl (L6 hB2) Tryz.underlying99 F7) rfl ?_;have hv:U7 (some a0) 0 pr kp=((dX a0,false),true):=(Ql (by omega)).trans (Ql (by omega));rw[hv];exact⟨rfl,L7 hg3 _ _⟩
set_option maxHeartbeats 4000000 in
set_option maxRecDepth 100000 in
theorem GY(a0 a1 a2 a3 a4 a5:Int) (kp:Bool) (a7 a8 pr a10 a11:Int) (w:World):Calls Tryz.prog 51 #[.agg #[.int .i64 a0,.int .i64 a1,.int .i64 a2,.int .i64 a3,.int .i64 a4,.int .i64 a5,.bool kp,.int .i64 a7,.int .i64 a8,.int .u64 pr,.int .i64 a10,.int .i64 a11],.int .i64 1] w λe w'=>
  e= .returned (.tuple #[.agg #[.int .u64 (U7 (some a1) 1 pr kp).1.1,.bool (U7 (some a1) 1 pr kp).1.2],.bool (U7 (some a1) 1 pr kp).2])/\w.grownBy w' none:=by
 have hidx:=Aq;by_cases h1:a1 < -1
 ·go_enter Tryz.func51,Tryz.ntmps51
  go_wp2_with (first|(go_at_call 76;refine(B4 _ _).mono ?_;rintro e w1 ⟨rfl,hg1⟩;obtain⟨hA,hB⟩:=H7 hg1;have k0:=o6 hA 1 rfl;have k1:=o6 hB 0 rfl;have k2:=o6 hB 1 rfl;have k3:=B1 hB 0;have k4:=B1 hB 1;have k5:=o6 hA 6 rfl)|(go_at_call 75;refine(B7 _ _).mono ?_;rintro e w2 ⟨rfl,hg2⟩;have hg3:=hg1.trans hg2;obtain⟨hA2,hB2⟩:=H7 hg3;have m1:=o6 hB2 0 rfl;have m2:=o6 hB2 1 rfl;have m3:=B1 hB2 0;have m4:=B1 hB2 1))
  refine bodyPost_ret (D7 Tryz.results51 _ _ (w.heap.size+1) 99 _ (0,0) _ rfl (L6 hB) Tryz.underlying99 F7) rfl ?_;have hv:U7 (some a1) 1 pr kp=((0,false),false):=Qx h1;rw[hv];exact⟨rfl,L7 hg1 _ _⟩
 by_cases h2:a1= -1
 ·subst h2
  go_enter Tryz.func51,Tryz.ntmps51
  go_wp2_with (first|(go_at_call 76;refine(B4 _ _).mono ?_;rintro e w1 ⟨rfl,hg1⟩;obtain⟨hA,hB⟩:=H7 hg1;have k0:=o6 hA 1 rfl;have k1:=o6 hB 0 rfl;have k2:=o6 hB 1 rfl;have k3:=B1 hB 0;have k4:=B1 hB 1;have k5:=o6 hA 6 rfl)|(go_at_call 75;refine(B7 _ _).mono ?_;rintro e w2 ⟨rfl,hg2⟩;have hg3:=hg1.trans hg2;obtain⟨hA2,hB2⟩:=H7 hg3;have m1:=o6 hB2 0 rfl;have m2:=o6 hB2 1 rfl;have m3:=B1 hB2 0;have m4:=B1 hB2 1))
  refine bodyPost_ret (D7 Tryz.results51 _ _ (w.heap.size+1) 99 _ (0,0) _ rfl (L6 hB) Tryz.underlying99 F7) rfl ?_;exact⟨rfl,L7 hg1 _ _⟩
 ·go_enter Tryz.func51,Tryz.ntmps51
  go_wp2_with (first|(go_at_call 76;refine(B4 _ _).mono ?_;rintro e w1 ⟨rfl,hg1⟩;obtain⟨hA,hB⟩:=H7 hg1;have k0:=o6 hA 1 rfl;have k1:=o6 hB 0 rfl;have k2:=o6 hB 1 rfl;have k3:=B1 hB 0;have k4:=B1 hB 1;have k5:=o6 hA 6 rfl)|(go_at_call 75;refine(B7 _ _).mono ?_;rintro e w2 ⟨rfl,hg2⟩;have hg3:=hg1.trans hg2;obtain⟨hA2,hB2⟩:=H7 hg3;have m1:=o6 hB2 0 rfl;have m2:=o6 hB2 1 rfl;have m3:=B1 hB2 0;have m4:=B1 hB2 1))
  refine bodyPost_ret (D7 Tryz.results51 _ _ (w.heap.size+1) 99 _ (0,0) _ rfl (L6 hB2) Tryz.underlying99 F7) rfl ?_;have hv:U7 (some a1) 1 pr kp=((dX a1,false),true):=(Ql (by omega)).trans (Ql (by omega));rw[hv];exact⟨rfl,L7 hg3 _ _⟩
set_option maxHeartbeats 4000000 in
set_option maxRecDepth 100000 in
theorem GZ(a0 a1 a2 a3 a4 a5:Int) (kp:Bool) (a7 a8 pr a10 a11:Int) (w:World):Calls Tryz.prog 51 #[.agg #[.int .i64 a0,.int .i64 a1,.int .i64 a2,.int .i64 a3,.int .i64 a4,.int .i64 a5,.bool kp,.int .i64 a7,.int .i64 a8,.int .u64 pr,.int .i64 a10,.int .i64 a11],.int .i64 2] w λe w'=>
  e= .returned (.tuple #[.agg #[.int .u64 (U7 (some a2) 2 pr kp).1.1,.bool (U7 (some a2) 2 pr kp).1.2],.bool (U7 (some a2) 2 pr kp).2])/\w.grownBy w' none:=by
 have hidx:=Ar;by_cases h1:a2 < -1
 ·go_enter Tryz.func51,Tryz.ntmps51
  go_wp2_with (first|(go_at_call 76;refine(B4 _ _).mono ?_;rintro e w1 ⟨rfl,hg1⟩;obtain⟨hA,hB⟩:=H7 hg1;have k0:=o6 hA 2 rfl;have k1:=o6 hB 0 rfl;have k2:=o6 hB 1 rfl;have k3:=B1 hB 0;have k4:=B1 hB 1;have k5:=o6 hA 6 rfl)|(go_at_call 75;refine(B7 _ _).mono ?_;rintro e w2 ⟨rfl,hg2⟩;have hg3:=hg1.trans hg2;obtain⟨hA2,hB2⟩:=H7 hg3;have m1:=o6 hB2 0 rfl;have m2:=o6 hB2 1 rfl;have m3:=B1 hB2 0;have m4:=B1 hB2 1))
  refine bodyPost_ret (D7 Tryz.results51 _ _ (w.heap.size+1) 99 _ (0,0) _ rfl (L6 hB) Tryz.underlying99 F7) rfl ?_;have hv:U7 (some a2) 2 pr kp=((0,false),false):=Qx h1;rw[hv];exact⟨rfl,L7 hg1 _ _⟩
 by_cases h2:a2= -1
 ·subst h2
  go_enter Tryz.func51,Tryz.ntmps51
  go_wp2_with (first|(go_at_call 76;refine(B4 _ _).mono ?_;rintro e w1 ⟨rfl,hg1⟩;obtain⟨hA,hB⟩:=H7 hg1;have k0:=o6 hA 2 rfl;have k1:=o6 hB 0 rfl;have k2:=o6 hB 1 rfl;have k3:=B1 hB 0;have k4:=B1 hB 1;have k5:=o6 hA 6 rfl)|(go_at_call 75;refine(B7 _ _).mono ?_;rintro e w2 ⟨rfl,hg2⟩;have hg3:=hg1.trans hg2;obtain⟨hA2,hB2⟩:=H7 hg3;have m1:=o6 hB2 0 rfl;have m2:=o6 hB2 1 rfl;have m3:=B1 hB2 0;have m4:=B1 hB2 1))
  refine bodyPost_ret (D7 Tryz.results51 _ _ (w.heap.size+1) 99 _ (0,0) _ rfl (L6 hB) Tryz.underlying99 F7) rfl ?_;exact⟨rfl,L7 hg1 _ _⟩
 ·go_enter Tryz.func51,Tryz.ntmps51
  go_wp2_with (first|(go_at_call 76;refine(B4 _ _).mono ?_;rintro e w1 ⟨rfl,hg1⟩;obtain⟨hA,hB⟩:=H7 hg1;have k0:=o6 hA 2 rfl;have k1:=o6 hB 0 rfl;have k2:=o6 hB 1 rfl;have k3:=B1 hB 0;have k4:=B1 hB 1;have k5:=o6 hA 6 rfl)|(go_at_call 75;refine(B7 _ _).mono ?_;rintro e w2 ⟨rfl,hg2⟩;have hg3:=hg1.trans hg2;obtain⟨hA2,hB2⟩:=H7 hg3;have m1:=o6 hB2 0 rfl;have m2:=o6 hB2 1 rfl;have m3:=B1 hB2 0;have m4:=B1 hB2 1))
  refine bodyPost_ret (D7 Tryz.results51 _ _ (w.heap.size+1) 99 _ (0,0) _ rfl (L6 hB2) Tryz.underlying99 F7) rfl ?_;have hv:U7 (some a2) 2 pr kp=((dX a2,false),true):=(Ql (by omega)).trans (Ql (by omega));rw[hv];exact⟨rfl,L7 hg3 _ _⟩
set_option maxHeartbeats 4000000 in
set_option maxRecDepth 100000 in
theorem Ha(a0 a1 a2 a3 a4 a5:Int) (kp:Bool) (a7 a8 pr a10 a11:Int) (w:World):Calls Tryz.prog 51 #[.agg #[.int .i64 a0,.int .i64 a1,.int .i64 a2,.int .i64 a3,.int .i64 a4,.int .i64 a5,.bool kp,.int .i64 a7,.int .i64 a8,.int .u64 pr,.int .i64 a10,.int .i64 a11],.int .i64 3] w λe w'=>
  e= .returned (.tuple #[.agg #[.int .u64 (U7 (some a3) 3 pr kp).1.1,.bool (U7 (some a3) 3 pr kp).1.2],.bool (U7 (some a3) 3 pr kp).2])/\w.grownBy w' none:=by
 have hidx:=As;by_cases h1:a3 < -1
 ·go_enter Tryz.func51,Tryz.ntmps51
  go_wp2_with (first|(go_at_call 76;refine(B4 _ _).mono ?_;rintro e w1 ⟨rfl,hg1⟩;obtain⟨hA,hB⟩:=H7 hg1;have k0:=o6 hA 3 rfl;have k1:=o6 hB 0 rfl;have k2:=o6 hB 1 rfl;have k3:=B1 hB 0;have k4:=B1 hB 1;have k5:=o6 hA 6 rfl)|(go_at_call 75;refine(B7 _ _).mono ?_;rintro e w2 ⟨rfl,hg2⟩;have hg3:=hg1.trans hg2;obtain⟨hA2,hB2⟩:=H7 hg3;have m1:=o6 hB2 0 rfl;have m2:=o6 hB2 1 rfl;have m3:=B1 hB2 0;have m4:=B1 hB2 1))
  refine bodyPost_ret (D7 Tryz.results51 _ _ (w.heap.size+1) 99 _ (0,0) _ rfl (L6 hB) Tryz.underlying99 F7) rfl ?_;have hv:U7 (some a3) 3 pr kp=((0,false),false):=Qx h1;rw[hv];exact⟨rfl,L7 hg1 _ _⟩
 by_cases h2:a3= -1
 ·subst h2
  go_enter Tryz.func51,Tryz.ntmps51
  go_wp2_with (first|(go_at_call 76;refine(B4 _ _).mono ?_;rintro e w1 ⟨rfl,hg1⟩;obtain⟨hA,hB⟩:=H7 hg1;have k0:=o6 hA 3 rfl;have k1:=o6 hB 0 rfl;have k2:=o6 hB 1 rfl;have k3:=B1 hB 0;have k4:=B1 hB 1;have k5:=o6 hA 6 rfl)|(go_at_call 75;refine(B7 _ _).mono ?_;rintro e w2 ⟨rfl,hg2⟩;have hg3:=hg1.trans hg2;obtain⟨hA2,hB2⟩:=H7 hg3;have m1:=o6 hB2 0 rfl;have m2:=o6 hB2 1 rfl;have m3:=B1 hB2 0;have m4:=B1 hB2 1))
  refine bodyPost_ret (D7 Tryz.results51 _ _ (w.heap.size+1) 99 _ (0,0) _ rfl (L6 hB) Tryz.underlying99 F7) rfl ?_;exact⟨rfl,L7 hg1 _ _⟩
 ·go_enter Tryz.func51,Tryz.ntmps51
  go_wp2_with (first|(go_at_call 76;refine(B4 _ _).mono ?_;rintro e w1 ⟨rfl,hg1⟩;obtain⟨hA,hB⟩:=H7 hg1;have k0:=o6 hA 3 rfl;have k1:=o6 hB 0 rfl;have k2:=o6 hB 1 rfl;have k3:=B1 hB 0;have k4:=B1 hB 1;have k5:=o6 hA 6 rfl)|(go_at_call 75;refine(B7 _ _).mono ?_;rintro e w2 ⟨rfl,hg2⟩;have hg3:=hg1.trans hg2;obtain⟨hA2,hB2⟩:=H7 hg3;have m1:=o6 hB2 0 rfl;have m2:=o6 hB2 1 rfl;have m3:=B1 hB2 0;have m4:=B1 hB2 1))
  refine bodyPost_ret (D7 Tryz.results51 _ _ (w.heap.size+1) 99 _ (0,0) _ rfl (L6 hB2) Tryz.underlying99 F7) rfl ?_;have hv:U7 (some a3) 3 pr kp=((dX a3,false),true):=(Ql (by omega)).trans (Ql (by omega));rw[hv];exact⟨rfl,L7 hg3 _ _⟩
set_option maxHeartbeats 4000000 in
set_option maxRecDepth 100000 in
theorem Hb(a0 a1 a2 a3 a4 a5:Int) (kp:Bool) (a7 a8 pr a10 a11:Int) (w:World):Calls Tryz.prog 51 #[.agg #[.int .i64 a0,.int .i64 a1,.int .i64 a2,.int .i64 a3,.int .i64 a4,.int .i64 a5,.bool kp,.int .i64 a7,.int .i64 a8,.int .u64 pr,.int .i64 a10,.int .i64 a11],.int .i64 4] w λe w'=>
  e= .returned (.tuple #[.agg #[.int .u64 (U7 (some a4) 4 pr kp).1.1,.bool (U7 (some a4) 4 pr kp).1.2],.bool (U7 (some a4) 4 pr kp).2])/\w.grownBy w' none:=by
 have hidx:=Au;by_cases h1:a4 < -1
 ·go_enter Tryz.func51,Tryz.ntmps51
  go_wp2_with (first|(go_at_call 76;refine(B4 _ _).mono ?_;rintro e w1 ⟨rfl,hg1⟩;obtain⟨hA,hB⟩:=H7 hg1;have k0:=o6 hA 4 rfl;have k1:=o6 hB 0 rfl;have k2:=o6 hB 1 rfl;have k3:=B1 hB 0;have k4:=B1 hB 1;have k5:=o6 hA 6 rfl)|(go_at_call 75;refine(B7 _ _).mono ?_;rintro e w2 ⟨rfl,hg2⟩;have hg3:=hg1.trans hg2;obtain⟨hA2,hB2⟩:=H7 hg3;have m1:=o6 hB2 0 rfl;have m2:=o6 hB2 1 rfl;have m3:=B1 hB2 0;have m4:=B1 hB2 1))
  refine bodyPost_ret (D7 Tryz.results51 _ _ (w.heap.size+1) 99 _ (0,0) _ rfl (L6 hB) Tryz.underlying99 F7) rfl ?_;have hv:U7 (some a4) 4 pr kp=((0,false),false):=Qx h1;rw[hv];exact⟨rfl,L7 hg1 _ _⟩
 by_cases h2:a4= -1
 ·subst h2
  go_enter Tryz.func51,Tryz.ntmps51
  go_wp2_with (first|(go_at_call 76;refine(B4 _ _).mono ?_;rintro e w1 ⟨rfl,hg1⟩;obtain⟨hA,hB⟩:=H7 hg1;have k0:=o6 hA 4 rfl;have k1:=o6 hB 0 rfl;have k2:=o6 hB 1 rfl;have k3:=B1 hB 0;have k4:=B1 hB 1;have k5:=o6 hA 6 rfl)|(go_at_call 75;refine(B7 _ _).mono ?_;rintro e w2 ⟨rfl,hg2⟩;have hg3:=hg1.trans hg2;obtain⟨hA2,hB2⟩:=H7 hg3;have m1:=o6 hB2 0 rfl;have m2:=o6 hB2 1 rfl;have m3:=B1 hB2 0;have m4:=B1 hB2 1))
  refine bodyPost_ret (D7 Tryz.results51 _ _ (w.heap.size+1) 99 _ (0,0) _ rfl (L6 hB) Tryz.underlying99 F7) rfl ?_;exact⟨rfl,L7 hg1 _ _⟩
 ·go_enter Tryz.func51,Tryz.ntmps51
  go_wp2_with (first|(go_at_call 76;refine(B4 _ _).mono ?_;rintro e w1 ⟨rfl,hg1⟩;obtain⟨hA,hB⟩:=H7 hg1;have k0:=o6 hA 4 rfl;have k1:=o6 hB 0 rfl;have k2:=o6 hB 1 rfl;have k3:=B1 hB 0;have k4:=B1 hB 1;have k5:=o6 hA 6 rfl)|(go_at_call 75;refine(B7 _ _).mono ?_;rintro e w2 ⟨rfl,hg2⟩;have hg3:=hg1.trans hg2;obtain⟨hA2,hB2⟩:=H7 hg3;have m1:=o6 hB2 0 rfl;have m2:=o6 hB2 1 rfl;have m3:=B1 hB2 0;have m4:=B1 hB2 1))
  refine bodyPost_ret (D7 Tryz.results51 _ _ (w.heap.size+1) 99 _ (0,0) _ rfl (L6 hB2) Tryz.underlying99 F7) rfl ?_;have hv:U7 (some a4) 4 pr kp=((dX a4,false),true):=(Ql (by omega)).trans (Ql (by omega));rw[hv];exact⟨rfl,L7 hg3 _ _⟩
set_option maxHeartbeats 4000000 in
set_option maxRecDepth 100000 in
theorem Hd(a0 a1 a2 a3 a4 a5:Int) (kp:Bool) (a7 a8 pr a10 a11:Int) (w:World):Calls Tryz.prog 51 #[.agg #[.int .i64 a0,.int .i64 a1,.int .i64 a2,.int .i64 a3,.int .i64 a4,.int .i64 a5,.bool kp,.int .i64 a7,.int .i64 a8,.int .u64 pr,.int .i64 a10,.int .i64 a11],.int .i64 5] w λe w'=>
  e= .returned (.tuple #[.agg #[.int .u64 (U7 (some a5) 5 pr kp).1.1,.bool (U7 (some a5) 5 pr kp).1.2],.bool (U7 (some a5) 5 pr kp).2])/\w.grownBy w' none:=by
 have hidx:=Av;by_cases h1:a5 < -1
 ·go_enter Tryz.func51,Tryz.ntmps51
  go_wp2_with (first|(go_at_call 76;refine(B4 _ _).mono ?_;rintro e w1 ⟨rfl,hg1⟩;obtain⟨hA,hB⟩:=H7 hg1;have k0:=o6 hA 5 rfl;have k1:=o6 hB 0 rfl;have k2:=o6 hB 1 rfl;have k3:=B1 hB 0;have k4:=B1 hB 1;have k5:=o6 hA 6 rfl)|(go_at_call 75;refine(B7 _ _).mono ?_;rintro e w2 ⟨rfl,hg2⟩;have hg3:=hg1.trans hg2;obtain⟨hA2,hB2⟩:=H7 hg3;have m1:=o6 hB2 0 rfl;have m2:=o6 hB2 1 rfl;have m3:=B1 hB2 0;have m4:=B1 hB2 1))
  refine bodyPost_ret (D7 Tryz.results51 _ _ (w.heap.size+1) 99 _ (0,0) _ rfl (L6 hB) Tryz.underlying99 F7) rfl ?_;have hv:U7 (some a5) 5 pr kp=((0,false),false):=Qx h1;rw[hv];exact⟨rfl,L7 hg1 _ _⟩
 by_cases h2:a5= -1
 ·subst h2
  go_enter Tryz.func51,Tryz.ntmps51
  go_wp2_with (first|(go_at_call 76;refine(B4 _ _).mono ?_;rintro e w1 ⟨rfl,hg1⟩;obtain⟨hA,hB⟩:=H7 hg1;have k0:=o6 hA 5 rfl;have k1:=o6 hB 0 rfl;have k2:=o6 hB 1 rfl;have k3:=B1 hB 0;have k4:=B1 hB 1;have k5:=o6 hA 6 rfl)|(go_at_call 75;refine(B7 _ _).mono ?_;rintro e w2 ⟨rfl,hg2⟩;have hg3:=hg1.trans hg2;obtain⟨hA2,hB2⟩:=H7 hg3;have m1:=o6 hB2 0 rfl;have m2:=o6 hB2 1 rfl;have m3:=B1 hB2 0;have m4:=B1 hB2 1))
  refine bodyPost_ret (D7 Tryz.results51 _ _ (w.heap.size+1) 99 _ (0,0) _ rfl (L6 hB) Tryz.underlying99 F7) rfl ?_;exact⟨rfl,L7 hg1 _ _⟩
 ·go_enter Tryz.func51,Tryz.ntmps51
  go_wp2_with (first|(go_at_call 76;refine(B4 _ _).mono ?_;rintro e w1 ⟨rfl,hg1⟩;obtain⟨hA,hB⟩:=H7 hg1;have k0:=o6 hA 5 rfl;have k1:=o6 hB 0 rfl;have k2:=o6 hB 1 rfl;have k3:=B1 hB 0;have k4:=B1 hB 1;have k5:=o6 hA 6 rfl)|(go_at_call 75;refine(B7 _ _).mono ?_;rintro e w2 ⟨rfl,hg2⟩;have hg3:=hg1.trans hg2;obtain⟨hA2,hB2⟩:=H7 hg3;have m1:=o6 hB2 0 rfl;have m2:=o6 hB2 1 rfl;have m3:=B1 hB2 0;have m4:=B1 hB2 1))
  refine bodyPost_ret (D7 Tryz.results51 _ _ (w.heap.size+1) 99 _ (0,0) _ rfl (L6 hB2) Tryz.underlying99 F7) rfl ?_;have hv:U7 (some a5) 5 pr kp=((dX a5,false),true):=(Ql (by omega)).trans (Ql (by omega));rw[hv];exact⟨rfl,L7 hg3 _ _⟩
set_option maxHeartbeats 4000000 in
set_option maxRecDepth 100000 in
theorem He(a0 a1 a2 a3 a4 a5:Int) (kp:Bool) (a7 a8 pr a10 a11:Int) (w:World):Calls Tryz.prog 51 #[.agg #[.int .i64 a0,.int .i64 a1,.int .i64 a2,.int .i64 a3,.int .i64 a4,.int .i64 a5,.bool kp,.int .i64 a7,.int .i64 a8,.int .u64 pr,.int .i64 a10,.int .i64 a11],.int .i64 6] w λe w'=>
  e= .returned (.tuple #[.agg #[.int .u64 (U7 none 6 pr kp).1.1,.bool (U7 none 6 pr kp).1.2],.bool (U7 none 6 pr kp).2])/\w.grownBy w' none:=by
 have hidx:=Aw;cases kp
 ·go_enter Tryz.func51,Tryz.ntmps51
  go_wp2_with (first|(go_at_call 76;refine(B4 _ _).mono ?_;rintro e w1 ⟨rfl,hg1⟩;obtain⟨hA,hB⟩:=H7 hg1;have k0:=o6 hA 6 rfl;have k1:=o6 hB 0 rfl;have k2:=o6 hB 1 rfl;have k3:=B1 hB 0;have k4:=B1 hB 1;have k5:=o6 hA 6 rfl)|(go_at_call 75;refine(B7 _ _).mono ?_;rintro e w2 ⟨rfl,hg2⟩;have hg3:=hg1.trans hg2;obtain⟨hA2,hB2⟩:=H7 hg3;have m1:=o6 hB2 0 rfl;have m2:=o6 hB2 1 rfl;have m3:=B1 hB2 0;have m4:=B1 hB2 1))
  refine bodyPost_ret (D7 Tryz.results51 _ _ (w.heap.size+1) 99 _ (0,0) _ rfl (L6 hB2) Tryz.underlying99 F7) rfl ?_;exact⟨rfl,L7 hg3 _ _⟩
 ·go_enter Tryz.func51,Tryz.ntmps51
  go_wp2_with (first|(go_at_call 76;refine(B4 _ _).mono ?_;rintro e w1 ⟨rfl,hg1⟩;obtain⟨hA,hB⟩:=H7 hg1;have k0:=o6 hA 6 rfl;have k1:=o6 hB 0 rfl;have k2:=o6 hB 1 rfl;have k3:=B1 hB 0;have k4:=B1 hB 1;have k5:=o6 hA 6 rfl)|(go_at_call 75;refine(B7 _ _).mono ?_;rintro e w2 ⟨rfl,hg2⟩;have hg3:=hg1.trans hg2;obtain⟨hA2,hB2⟩:=H7 hg3;have m1:=o6 hB2 0 rfl;have m2:=o6 hB2 1 rfl;have m3:=B1 hB2 0;have m4:=B1 hB2 1))
  refine bodyPost_ret (D7 Tryz.results51 _ _ (w.heap.size+1) 99 _ (0,0) _ rfl (L6 hB2) Tryz.underlying99 F7) rfl ?_;exact⟨rfl,L7 hg3 _ _⟩
set_option maxHeartbeats 4000000 in
set_option maxRecDepth 100000 in
theorem Hg(a0 a1 a2 a3 a4 a5:Int) (kp:Bool) (a7 a8 pr a10 a11:Int) (w:World):Calls Tryz.prog 51 #[.agg #[.int .i64 a0,.int .i64 a1,.int .i64 a2,.int .i64 a3,.int .i64 a4,.int .i64 a5,.bool kp,.int .i64 a7,.int .i64 a8,.int .u64 pr,.int .i64 a10,.int .i64 a11],.int .i64 7] w λe w'=>
  e= .returned (.tuple #[.agg #[.int .u64 (U7 (some a7) 7 pr kp).1.1,.bool (U7 (some a7) 7 pr kp).1.2],.bool (U7 (some a7) 7 pr kp).2])/\w.grownBy w' none:=by
 have hidx:=Ax;by_cases h1:a7 < -1
 ·go_enter Tryz.func51,Tryz.ntmps51
  go_wp2_with (first|(go_at_call 76;refine(B4 _ _).mono ?_;rintro e w1 ⟨rfl,hg1⟩;obtain⟨hA,hB⟩:=H7 hg1;have k0:=o6 hA 7 rfl;have k1:=o6 hB 0 rfl;have k2:=o6 hB 1 rfl;have k3:=B1 hB 0;have k4:=B1 hB 1;have k5:=o6 hA 6 rfl)|(go_at_call 75;refine(B7 _ _).mono ?_;rintro e w2 ⟨rfl,hg2⟩;have hg3:=hg1.trans hg2;obtain⟨hA2,hB2⟩:=H7 hg3;have m1:=o6 hB2 0 rfl;have m2:=o6 hB2 1 rfl;have m3:=B1 hB2 0;have m4:=B1 hB2 1))
  refine bodyPost_ret (D7 Tryz.results51 _ _ (w.heap.size+1) 99 _ (0,0) _ rfl (L6 hB) Tryz.underlying99 F7) rfl ?_;have hv:U7 (some a7) 7 pr kp=((0,false),false):=Qx h1;rw[hv];exact⟨rfl,L7 hg1 _ _⟩
 by_cases h2:a7= -1
 ·subst h2
  go_enter Tryz.func51,Tryz.ntmps51
  go_wp2_with (first|(go_at_call 76;refine(B4 _ _).mono ?_;rintro e w1 ⟨rfl,hg1⟩;obtain⟨hA,hB⟩:=H7 hg1;have k0:=o6 hA 7 rfl;have k1:=o6 hB 0 rfl;have k2:=o6 hB 1 rfl;have k3:=B1 hB 0;have k4:=B1 hB 1;have k5:=o6 hA 6 rfl)|(go_at_call 75;refine(B7 _ _).mono ?_;rintro e w2 ⟨rfl,hg2⟩;have hg3:=hg1.trans hg2;obtain⟨hA2,hB2⟩:=H7 hg3;have m1:=o6 hB2 0 rfl;have m2:=o6 hB2 1 rfl;have m3:=B1 hB2 0;have m4:=B1 hB2 1))
  refine bodyPost_ret (D7 Tryz.results51 _ _ (w.heap.size+1) 99 _ (0,0) _ rfl (L6 hB) Tryz.underlying99 F7) rfl ?_;exact⟨rfl,L7 hg1 _ _⟩
 ·go_enter Tryz.func51,Tryz.ntmps51
  go_wp2_with (first|(go_at_call 76;refine(B4 _ _).mono ?_;rintro e w1 ⟨rfl,hg1⟩;obtain⟨hA,hB⟩:=H7 hg1;have k0:=o6 hA 7 rfl;have k1:=o6 hB 0 rfl;have k2:=o6 hB 1 rfl;have k3:=B1 hB 0;have k4:=B1 hB 1;have k5:=o6 hA 6 rfl)|(go_at_call 75;refine(B7 _ _).mono ?_;rintro e w2 ⟨rfl,hg2⟩;have hg3:=hg1.trans hg2;obtain⟨hA2,hB2⟩:=H7 hg3;have m1:=o6 hB2 0 rfl;have m2:=o6 hB2 1 rfl;have m3:=B1 hB2 0;have m4:=B1 hB2 1))
  refine bodyPost_ret (D7 Tryz.results51 _ _ (w.heap.size+1) 99 _ (0,0) _ rfl (L6 hB2) Tryz.underlying99 F7) rfl ?_;have hv:U7 (some a7) 7 pr kp=((dX a7,false),true):=(Ql (by omega)).trans (Ql (by omega));rw[hv];exact⟨rfl,L7 hg3 _ _⟩
set_option maxHeartbeats 4000000 in
set_option maxRecDepth 100000 in
theorem Hh(a0 a1 a2 a3 a4 a5:Int) (kp:Bool) (a7 a8 pr a10 a11:Int) (w:World):Calls Tryz.prog 51 #[.agg #[.int .i64 a0,.int .i64 a1,.int .i64 a2,.int .i64 a3,.int .i64 a4,.int .i64 a5,.bool kp,.int .i64 a7,.int .i64 a8,.int .u64 pr,.int .i64 a10,.int .i64 a11],.int .i64 8] w λe w'=>
  e= .returned (.tuple #[.agg #[.int .u64 (U7 (some a8) 8 pr kp).1.1,.bool (U7 (some a8) 8 pr kp).1.2],.bool (U7 (some a8) 8 pr kp).2])/\w.grownBy w' none:=by
 have hidx:=Ay;by_cases h1:a8 < -1
 ·go_enter Tryz.func51,Tryz.ntmps51
  go_wp2_with (first|(go_at_call 76;refine(B4 _ _).mono ?_;rintro e w1 ⟨rfl,hg1⟩;obtain⟨hA,hB⟩:=H7 hg1;have k0:=o6 hA 8 rfl;have k1:=o6 hB 0 rfl;have k2:=o6 hB 1 rfl;have k3:=B1 hB 0;have k4:=B1 hB 1;have k5:=o6 hA 6 rfl)|(go_at_call 75;refine(B7 _ _).mono ?_;rintro e w2 ⟨rfl,hg2⟩;have hg3:=hg1.trans hg2;obtain⟨hA2,hB2⟩:=H7 hg3;have m1:=o6 hB2 0 rfl;have m2:=o6 hB2 1 rfl;have m3:=B1 hB2 0;have m4:=B1 hB2 1))
  refine bodyPost_ret (D7 Tryz.results51 _ _ (w.heap.size+1) 99 _ (0,0) _ rfl (L6 hB) Tryz.underlying99 F7) rfl ?_;have hv:U7 (some a8) 8 pr kp=((0,false),false):=Qx h1;rw[hv];exact⟨rfl,L7 hg1 _ _⟩
 by_cases h2:a8= -1
 ·subst h2
  go_enter Tryz.func51,Tryz.ntmps51
  go_wp2_with (first|(go_at_call 76;refine(B4 _ _).mono ?_;rintro e w1 ⟨rfl,hg1⟩;obtain⟨hA,hB⟩:=H7 hg1;have k0:=o6 hA 8 rfl;have k1:=o6 hB 0 rfl;have k2:=o6 hB 1 rfl;have k3:=B1 hB 0;have k4:=B1 hB 1;have k5:=o6 hA 6 rfl)|(go_at_call 75;refine(B7 _ _).mono ?_;rintro e w2 ⟨rfl,hg2⟩;have hg3:=hg1.trans hg2;obtain⟨hA2,hB2⟩:=H7 hg3;have m1:=o6 hB2 0 rfl;have m2:=o6 hB2 1 rfl;have m3:=B1 hB2 0;have m4:=B1 hB2 1))
  refine bodyPost_ret (D7 Tryz.results51 _ _ (w.heap.size+1) 99 _ (0,0) _ rfl (L6 hB) Tryz.underlying99 F7) rfl ?_;exact⟨rfl,L7 hg1 _ _⟩
 ·go_enter Tryz.func51,Tryz.ntmps51
  go_wp2_with (first|(go_at_call 76;refine(B4 _ _).mono ?_;rintro e w1 ⟨rfl,hg1⟩;obtain⟨hA,hB⟩:=H7 hg1;have k0:=o6 hA 8 rfl;have k1:=o6 hB 0 rfl;have k2:=o6 hB 1 rfl;have k3:=B1 hB 0;have k4:=B1 hB 1;have k5:=o6 hA 6 rfl)|(go_at_call 75;refine(B7 _ _).mono ?_;rintro e w2 ⟨rfl,hg2⟩;have hg3:=hg1.trans hg2;obtain⟨hA2,hB2⟩:=H7 hg3;have m1:=o6 hB2 0 rfl;have m2:=o6 hB2 1 rfl;have m3:=B1 hB2 0;have m4:=B1 hB2 1))
  refine bodyPost_ret (D7 Tryz.results51 _ _ (w.heap.size+1) 99 _ (0,0) _ rfl (L6 hB2) Tryz.underlying99 F7) rfl ?_;have hv:U7 (some a8) 8 pr kp=((dX a8,false),true):=(Ql (by omega)).trans (Ql (by omega));rw[hv];exact⟨rfl,L7 hg3 _ _⟩
set_option maxHeartbeats 4000000 in
set_option maxRecDepth 100000 in
theorem Hi(a0 a1 a2 a3 a4 a5:Int) (kp:Bool) (a7 a8 pr a10 a11:Int) (w:World):Calls Tryz.prog 51 #[.agg #[.int .i64 a0,.int .i64 a1,.int .i64 a2,.int .i64 a3,.int .i64 a4,.int .i64 a5,.bool kp,.int .i64 a7,.int .i64 a8,.int .u64 pr,.int .i64 a10,.int .i64 a11],.int .i64 9] w λe w'=>
  e= .returned (.tuple #[.agg #[.int .u64 (U7 none 9 pr kp).1.1,.bool (U7 none 9 pr kp).1.2],.bool (U7 none 9 pr kp).2])/\w.grownBy w' none:=by
 have hidx:=Az
 go_enter Tryz.func51,Tryz.ntmps51
 go_wp2_with (first|(go_at_call 76;refine(B4 _ _).mono ?_;rintro e w1 ⟨rfl,hg1⟩;obtain⟨hA,hB⟩:=H7 hg1;have k0:=o6 hA 9 rfl;have k1:=o6 hB 0 rfl;have k2:=o6 hB 1 rfl;have k3:=B1 hB 0;have k4:=B1 hB 1;have k6:=o6 hA 9 rfl;have k5:=o6 hA 6 rfl)|(go_at_call 75;refine(B7 _ _).mono ?_;rintro e w2 ⟨rfl,hg2⟩;have hg3:=hg1.trans hg2;obtain⟨hA2,hB2⟩:=H7 hg3;have m1:=o6 hB2 0 rfl;have m2:=o6 hB2 1 rfl;have m3:=B1 hB2 0;have m4:=B1 hB2 1))
 refine bodyPost_ret (D7 Tryz.results51 _ _ (w.heap.size+1) 99 _ (0,0) _ rfl (L6 hB) Tryz.underlying99 F7) rfl ?_;exact⟨rfl,L7 hg1 _ _⟩
set_option maxHeartbeats 4000000 in
set_option maxRecDepth 100000 in
theorem DJ(a0 a1 a2 a3 a4 a5:Int) (kp:Bool) (a7 a8 pr a10 a11:Int) (w:World):Calls Tryz.prog 51 #[.agg #[.int .i64 a0,.int .i64 a1,.int .i64 a2,.int .i64 a3,.int .i64 a4,.int .i64 a5,.bool kp,.int .i64 a7,.int .i64 a8,.int .u64 pr,.int .i64 a10,.int .i64 a11],.int .i64 10] w λe w'=>
  e= .returned (.tuple #[.agg #[.int .u64 (U7 (some a10) 10 pr kp).1.1,.bool (U7 (some a10) 10 pr kp).1.2],.bool (U7 (some a10) 10 pr kp).2])/\w.grownBy w' none:=by
 have hidx:=vS;by_cases h1:a10 < -1
 ·go_enter Tryz.func51,Tryz.ntmps51
  go_wp2_with (first|(go_at_call 76;refine(B4 _ _).mono ?_;rintro e w1 ⟨rfl,hg1⟩;obtain⟨hA,hB⟩:=H7 hg1;have k0:=o6 hA 10 rfl;have k1:=o6 hB 0 rfl;have k2:=o6 hB 1 rfl;have k3:=B1 hB 0;have k4:=B1 hB 1;have k5:=o6 hA 6 rfl)|(go_at_call 75;refine(B7 _ _).mono ?_;rintro e w2 ⟨rfl,hg2⟩;have hg3:=hg1.trans hg2;obtain⟨hA2,hB2⟩:=H7 hg3;have m1:=o6 hB2 0 rfl;have m2:=o6 hB2 1 rfl;have m3:=B1 hB2 0;have m4:=B1 hB2 1))
  refine bodyPost_ret (D7 Tryz.results51 _ _ (w.heap.size+1) 99 _ (0,0) _ rfl (L6 hB) Tryz.underlying99 F7) rfl ?_;have hv:U7 (some a10) 10 pr kp=((0,false),false):=Qx h1;rw[hv];exact⟨rfl,L7 hg1 _ _⟩
 by_cases h2:a10= -1
 ·subst h2
  go_enter Tryz.func51,Tryz.ntmps51
  go_wp2_with (first|(go_at_call 76;refine(B4 _ _).mono ?_;rintro e w1 ⟨rfl,hg1⟩;obtain⟨hA,hB⟩:=H7 hg1;have k0:=o6 hA 10 rfl;have k1:=o6 hB 0 rfl;have k2:=o6 hB 1 rfl;have k3:=B1 hB 0;have k4:=B1 hB 1;have k5:=o6 hA 6 rfl)|(go_at_call 75;refine(B7 _ _).mono ?_;rintro e w2 ⟨rfl,hg2⟩;have hg3:=hg1.trans hg2;obtain⟨hA2,hB2⟩:=H7 hg3;have m1:=o6 hB2 0 rfl;have m2:=o6 hB2 1 rfl;have m3:=B1 hB2 0;have m4:=B1 hB2 1))
  refine bodyPost_ret (D7 Tryz.results51 _ _ (w.heap.size+1) 99 _ (0,0) _ rfl (L6 hB) Tryz.underlying99 F7) rfl ?_;exact⟨rfl,L7 hg1 _ _⟩
 ·go_enter Tryz.func51,Tryz.ntmps51
  go_wp2_with (first|(go_at_call 76;refine(B4 _ _).mono ?_;rintro e w1 ⟨rfl,hg1⟩;obtain⟨hA,hB⟩:=H7 hg1;have k0:=o6 hA 10 rfl;have k1:=o6 hB 0 rfl;have k2:=o6 hB 1 rfl;have k3:=B1 hB 0;have k4:=B1 hB 1;have k5:=o6 hA 6 rfl)|(go_at_call 75;refine(B7 _ _).mono ?_;rintro e w2 ⟨rfl,hg2⟩;have hg3:=hg1.trans hg2;obtain⟨hA2,hB2⟩:=H7 hg3;have m1:=o6 hB2 0 rfl;have m2:=o6 hB2 1 rfl;have m3:=B1 hB2 0;have m4:=B1 hB2 1))
  refine bodyPost_ret (D7 Tryz.results51 _ _ (w.heap.size+1) 99 _ (0,0) _ rfl (L6 hB2) Tryz.underlying99 F7) rfl ?_;have hv:U7 (some a10) 10 pr kp=((dX a10,false),true):=(Ql (by omega)).trans (Ql (by omega));rw[hv];exact⟨rfl,L7 hg3 _ _⟩
set_option maxHeartbeats 4000000 in
set_option maxRecDepth 100000 in
theorem DK(a0 a1 a2 a3 a4 a5:Int) (kp:Bool) (a7 a8 pr a10 a11:Int) (w:World):Calls Tryz.prog 51 #[.agg #[.int .i64 a0,.int .i64 a1,.int .i64 a2,.int .i64 a3,.int .i64 a4,.int .i64 a5,.bool kp,.int .i64 a7,.int .i64 a8,.int .u64 pr,.int .i64 a10,.int .i64 a11],.int .i64 11] w λe w'=>
  e= .returned (.tuple #[.agg #[.int .u64 (U7 (some a11) 11 pr kp).1.1,.bool (U7 (some a11) 11 pr kp).1.2],.bool (U7 (some a11) 11 pr kp).2])/\w.grownBy w' none:=by
 have hidx:=vT;by_cases h1:a11 < -1
 ·go_enter Tryz.func51,Tryz.ntmps51
  go_wp2_with (first|(go_at_call 76;refine(B4 _ _).mono ?_;rintro e w1 ⟨rfl,hg1⟩;obtain⟨hA,hB⟩:=H7 hg1;have k0:=o6 hA 11 rfl;have k1:=o6 hB 0 rfl;have k2:=o6 hB 1 rfl;have k3:=B1 hB 0;have k4:=B1 hB 1;have k5:=o6 hA 6 rfl)|(go_at_call 75;refine(B7 _ _).mono ?_;rintro e w2 ⟨rfl,hg2⟩;have hg3:=hg1.trans hg2;obtain⟨hA2,hB2⟩:=H7 hg3;have m1:=o6 hB2 0 rfl;have m2:=o6 hB2 1 rfl;have m3:=B1 hB2 0;have m4:=B1 hB2 1))
  refine bodyPost_ret (D7 Tryz.results51 _ _ (w.heap.size+1) 99 _ (0,0) _ rfl (L6 hB) Tryz.underlying99 F7) rfl ?_;have hv:U7 (some a11) 11 pr kp=((0,false),false):=Qx h1;rw[hv];exact⟨rfl,L7 hg1 _ _⟩
 by_cases h2:a11= -1
 ·subst h2
  go_enter Tryz.func51,Tryz.ntmps51
  go_wp2_with (first|(go_at_call 76;refine(B4 _ _).mono ?_;rintro e w1 ⟨rfl,hg1⟩;obtain⟨hA,hB⟩:=H7 hg1;have k0:=o6 hA 11 rfl;have k1:=o6 hB 0 rfl;have k2:=o6 hB 1 rfl;have k3:=B1 hB 0;have k4:=B1 hB 1;have k5:=o6 hA 6 rfl)|(go_at_call 75;refine(B7 _ _).mono ?_;rintro e w2 ⟨rfl,hg2⟩;have hg3:=hg1.trans hg2;obtain⟨hA2,hB2⟩:=H7 hg3;have m1:=o6 hB2 0 rfl;have m2:=o6 hB2 1 rfl;have m3:=B1 hB2 0;have m4:=B1 hB2 1))
  refine bodyPost_ret (D7 Tryz.results51 _ _ (w.heap.size+1) 99 _ (0,0) _ rfl (L6 hB) Tryz.underlying99 F7) rfl ?_;exact⟨rfl,L7 hg1 _ _⟩
 ·go_enter Tryz.func51,Tryz.ntmps51
  go_wp2_with (first|(go_at_call 76;refine(B4 _ _).mono ?_;rintro e w1 ⟨rfl,hg1⟩;obtain⟨hA,hB⟩:=H7 hg1;have k0:=o6 hA 11 rfl;have k1:=o6 hB 0 rfl;have k2:=o6 hB 1 rfl;have k3:=B1 hB 0;have k4:=B1 hB 1;have k5:=o6 hA 6 rfl)|(go_at_call 75;refine(B7 _ _).mono ?_;rintro e w2 ⟨rfl,hg2⟩;have hg3:=hg1.trans hg2;obtain⟨hA2,hB2⟩:=H7 hg3;have m1:=o6 hB2 0 rfl;have m2:=o6 hB2 1 rfl;have m3:=B1 hB2 0;have m4:=B1 hB2 1))
  refine bodyPost_ret (D7 Tryz.results51 _ _ (w.heap.size+1) 99 _ (0,0) _ rfl (L6 hB2) Tryz.underlying99 F7) rfl ?_;have hv:U7 (some a11) 11 pr kp=((dX a11,false),true):=(Ql (by omega)).trans (Ql (by omega));rw[hv];exact⟨rfl,L7 hg3 _ _⟩
abbrev eu:Type:=Int×Int×Int×Int×Int×Int×Bool×Int×Int×Int×Int×Int
def BZ(c:eu):Nat->Option Int
 |0=>some c.1
 |1=>some c.2.1
 |2=>some c.2.2.1
 |3=>some c.2.2.2.1
 |4=>some c.2.2.2.2.1
 |5=>some c.2.2.2.2.2.1
 |7=>some c.2.2.2.2.2.2.2.1
 |8=>some c.2.2.2.2.2.2.2.2.1
 |10=>some c.2.2.2.2.2.2.2.2.2.2.1
 |11=>some c.2.2.2.2.2.2.2.2.2.2.2
 |_=>none
def bm(c:eu) (i:Int):Option ((Int×Bool)×Bool):=chk (decide (0<=i/\i<12)) (some (U7 (BZ c i.toNat) i.toNat c.2.2.2.2.2.2.2.2.2.1 c.2.2.2.2.2.2.1))
def xS(c:eu):List Value:=[.int .i64 c.1,.int .i64 c.2.1,.int .i64 c.2.2.1,.int .i64 c.2.2.2.1,.int .i64 c.2.2.2.2.1,.int .i64 c.2.2.2.2.2.1,.bool c.2.2.2.2.2.2.1,.int .i64 c.2.2.2.2.2.2.2.1,.int .i64 c.2.2.2.2.2.2.2.2.1,.int .u64 c.2.2.2.2.2.2.2.2.2.1,.int .i64 c.2.2.2.2.2.2.2.2.2.2.1,.int .i64 c.2.2.2.2.2.2.2.2.2.2.2]
theorem xu(c:eu) (w:World):∀i:Nat,i<12->Calls Tryz.prog 51 #[.agg (xS c).toArray,.int .i64 (i:Int)] w λe w'=>
  e= .returned (.tuple #[.agg #[.int .u64 (U7 (BZ c i) i c.2.2.2.2.2.2.2.2.2.1 c.2.2.2.2.2.2.1).1.1,.bool (U7 (BZ c i) i c.2.2.2.2.2.2.2.2.2.1 c.2.2.2.2.2.2.1).1.2],.bool (U7 (BZ c i) i c.2.2.2.2.2.2.2.2.2.1 c.2.2.2.2.2.2.1).2])/\w.grownBy w' none
 |0,_=>GX _ _ _ _ _ _ _ _ _ _ _ _ w
 |1,_=>GY _ _ _ _ _ _ _ _ _ _ _ _ w
 |2,_=>GZ _ _ _ _ _ _ _ _ _ _ _ _ w
 |3,_=>Ha _ _ _ _ _ _ _ _ _ _ _ _ w
 |4,_=>Hb _ _ _ _ _ _ _ _ _ _ _ _ w
 |5,_=>Hd _ _ _ _ _ _ _ _ _ _ _ _ w
 |6,_=>He _ _ _ _ _ _ _ _ _ _ _ _ w
 |7,_=>Hg _ _ _ _ _ _ _ _ _ _ _ _ w
 |8,_=>Hh _ _ _ _ _ _ _ _ _ _ _ _ w
 |9,_=>Hi _ _ _ _ _ _ _ _ _ _ _ _ w
 |10,_=>DJ _ _ _ _ _ _ _ _ _ _ _ _ w
 |11,_=>DK _ _ _ _ _ _ _ _ _ _ _ _ w
theorem iT{I:Nat->Nat->Prop}{w:World}:∀{vs us:List Value}{F:List Nat},OCs I w (vs.map λv=>.d (.v v)) us F->us=vs/\F=[]
 |[],us,F,h=>by simpa only[Qs,OCs]using h
 |v::vs,us,F,h=>by
  simp only[PQ,OCs]at h;obtain⟨x,r,F1,F2,rfl,h1,h2,rfl⟩:=h;simp only[OCr,DVr]at h1;obtain⟨rfl,rfl,_⟩:=h1;obtain⟨rfl,rfl⟩:=iT h2;exact⟨rfl,rfl⟩
def JA:U:=.pr (.int .u64) .bool
def Mr:U:=.pr (.int .i64) (.pr (.int .i64) (.pr (.int .i64) (.pr (.int .i64) (.pr (.int .i64) (.pr (.int .i64) (.pr .bool (.pr (.int .i64) (.pr (.int .i64) (.pr (.int .u64) (.pr (.int .i64) (.int .i64)))))))))))
def di:TFn:=⟨.cons (.agg (.cons (.d Mr) .nil)) (.cons (.c (.d (.int .i64))) .nil),.nil,.cons (.agg (.cons (.d JA) .nil)) (.cons (.c (.d .bool)) .nil),(Int×Bool)×Bool,λa=>bm a.1.1 a.2.1,λr=>((),((r.1,()),(r.2,()))),.none⟩
theorem md:FnT Tryz.prog 51 di:=
 ⟨rfl,rfl,⟨trivial,⟨_,Tryz.func51,rfl,rfl⟩,λw I F args xs hIn hgl hargs hF hp=>by
  obtain⟨a,r,rfl,hr⟩:=hp;obtain⟨⟨c,u1⟩,i,u⟩:=a;change eu at c;change Int at i;have hr':bm c i=some r:=hr;obtain⟨hc,hr'⟩:=L9 hr';obtain⟨c1,c2⟩:=PN hc;obtain⟨n,rfl⟩:=RW c1;injection hr' with hr';rw[PY]at hr'
  replace hargs:OAs I w [.agg ((xS c).map λv=>.d (.v v)),.c (.d (.v (.int .i64 (n:Int))))] args.toList F:=hargs
  simp only[OAs,OAr]at hargs;obtain⟨x,q1,F1,F2,e1,⟨vs,rfl,h1⟩,⟨y,q2,F3,F4,rfl,h2,⟨rfl,rfl⟩,rfl⟩,rfl⟩:=hargs;obtain⟨h3,rfl⟩:=iT h1;simp only[OCr,DVr]at h2;obtain⟨rfl,rfl,_⟩:=h2;have hvs:vs=(xS c).toArray:=by rw[<-h3]
  subst hvs;have ha:args= #[.agg (xS c).toArray,.int .i64 (n:Int)]:=by cases args;simp only at e1;subst e1;rfl
  subst ha;refine Calls.mono (xu c w n (by omega)) λe w' h=>?_;rw[hr']at h;obtain⟨rfl,hg⟩:=h;obtain⟨⟨r0,r1⟩,r2⟩:=r;refine⟨I,[.agg #[.int .u64 r0,.bool r1],.bool r2],[],[],rfl,⟨⟨hg.os,hg.tape,hg.output,hg.size,λk hk _=>hg.block k hk (by simp)⟩,λ_ _ h=>h,λb o hi=>dY (hg.block b (hIn b o hi) (by simp)),λ_ _ h=>.inl h,λb o hi=>Qi (hIn b o hi) hg.size,?_,?_,by simp,by simp,λ_ _ h _=>h,λ_ _ h _ n=>absurd h n⟩⟩
  ·rw[TFn.post_of rfl hr];exact⟨rfl,rfl⟩
  ·have e1:(di.spec.res (di.args.oas ((c,u1),(n:Int),u)))=[.agg [.d (.v (.int .u64 r0)),.d (.v (.bool r1))],.c (.d (.v (.bool r2)))]:=by
    rw[TFn.res_of rfl hr];rfl
   rw[e1];simp only[OAs,OAr,OCs,OCr,DVr];exact⟨_,_,[],[],rfl,⟨_,rfl,_,_,[],[],rfl,⟨rfl,rfl,rfl⟩,⟨_,_,[],[],rfl,⟨rfl,rfl,rfl⟩,⟨rfl,rfl⟩,rfl⟩,rfl⟩,⟨_,_,[],[],rfl,⟨rfl,rfl,rfl⟩,⟨rfl,rfl⟩,rfl⟩,rfl⟩⟩⟩
theorem cM{w w1:World}{b:Nat}{C D:Array Value}{t u:TypeId}(hb:w.heap[b]?=some (.cells C t (0,0))) (h:(w.alloc (.cells D u)).grownBy w1 none):w1.heap[b]?=some (.cells C t (0,0))/\w1.heap[w.heap.size]?=some (.cells D u (0,0)):=by
 have hl:b<w.heap.size:=(Array.getElem?_eq_some_iff.1 hb).1;have hs:(w.alloc (.cells D u)).heap.size=w.heap.size+1:=by simp
 refine⟨(h.block _ (by omega) (by simp)).trans (((D9 w (.cells D u)).block b hl (by simp)).trans hb),(h.block _ (by omega) (by simp)).trans (heap_alloc_new w _)⟩
theorem bn(n:Int):wrap64 n=D1 n:=by unfold wrap64 D1;rw[IntKind.wrap_i64]
theorem X2{w:World}{b:Nat}{C:Array Value}{t:TypeId}(h:w.heap[b]?=some (.cells C t (0,0))) (i:Nat) (x:Value):(w.setCell ⟨b,i,none⟩ x).heap[b]?=some (.cells (C.setIfInBounds i x) t (0,0)):=by
 simp[World.setCell,Array.getElem?_modify,h]
theorem X3{w w1:World}{b:Nat}{C D:Array Value}{t u:TypeId}(_hb:w.heap[b]?=some (.cells C t (0,0))) (h:(w.alloc (.cells D u)).grownBy w1 none) (i:Nat) (x:Value):w.grownBy (w1.setCell ⟨b,i,none⟩ x) (some b):=by
 have hs:(w.alloc (.cells D u)).heap.size=w.heap.size+1:=by simp
 have hsz:=h.size;refine⟨h.os,h.tape,h.output,?_,λk hk hne=>?_⟩
 ·simp[World.setCell];omega
 ·have e:(w1.setCell ⟨b,i,none⟩ x).heap[k]?=w1.heap[k]?:=by
   simp only[World.setCell,Array.getElem?_modify];rw[Ql (λe=>hne (by rw[e]))]
  rw[e,h.block k (by omega) (by simp)];exact(D9 w (.cells D u)).block k hk (by simp)
set_option maxHeartbeats 4000000 in
set_option maxRecDepth 100000 in
theorem Ms{a0 a1 a2 a3 a4 a5:Int}{kp:Bool}{a7 a8 pr a10 a11:Int}{w:World}{b:Nat}{ty:TypeId}(hb:w.heap[b]?=some (.cells #[.int .i64 a0,.int .i64 a1,.int .i64 a2,.int .i64 a3,.int .i64 a4,.int .i64 a5,.bool kp,.int .i64 a7,.int .i64 a8,.int .u64 pr,.int .i64 a10,.int .i64 a11] ty (0,0))) (n:Int) (m:Bool):Calls Tryz.prog 53 #[.pointer (some ⟨b,0,none⟩),.int .i64 0,.agg #[.int .u64 n,.bool m]] w λe w'=>
  e= .returned (.tuple #[])/\w'.heap[b]?=some (.cells #[.int .i64 (if m then -1 else D1 n),.int .i64 a1,.int .i64 a2,.int .i64 a3,.int .i64 a4,.int .i64 a5,.bool kp,.int .i64 a7,.int .i64 a8,.int .u64 pr,.int .i64 a10,.int .i64 a11] ty (0,0))/\w.grownBy w' (some b):=by
 have hidx:=Ap;cases m
 ·go_enter Tryz.func53,Tryz.ntmps53
  go_wp2_with (first|(go_at_call 76;refine(B4 _ _).mono ?_;rintro e w1 ⟨rfl,hg1⟩;obtain⟨hA,hB⟩:=cM hb hg1;have k0:=o6 hA 0 rfl;have k1:=o6 hB 0 rfl;have k2:=o6 hB 1 rfl;have k3:=B1 hA 0))
  go_end0
  exact⟨rfl,(X2 hA 0 _).trans (by rw[bn];rfl),X3 hb hg1 _ _⟩
 ·go_enter Tryz.func53,Tryz.ntmps53
  go_wp2_with (first|(go_at_call 76;refine(B4 _ _).mono ?_;rintro e w1 ⟨rfl,hg1⟩;obtain⟨hA,hB⟩:=cM hb hg1;have k0:=o6 hA 0 rfl;have k1:=o6 hB 0 rfl;have k2:=o6 hB 1 rfl;have k3:=B1 hA 0))
  go_end0
  exact⟨rfl,(X2 hA 0 _).trans rfl,X3 hb hg1 _ _⟩
set_option maxHeartbeats 4000000 in
set_option maxRecDepth 100000 in
theorem Mt{a0 a1 a2 a3 a4 a5:Int}{kp:Bool}{a7 a8 pr a10 a11:Int}{w:World}{b:Nat}{ty:TypeId}(hb:w.heap[b]?=some (.cells #[.int .i64 a0,.int .i64 a1,.int .i64 a2,.int .i64 a3,.int .i64 a4,.int .i64 a5,.bool kp,.int .i64 a7,.int .i64 a8,.int .u64 pr,.int .i64 a10,.int .i64 a11] ty (0,0))) (n:Int) (m:Bool):Calls Tryz.prog 53 #[.pointer (some ⟨b,0,none⟩),.int .i64 1,.agg #[.int .u64 n,.bool m]] w λe w'=>
  e= .returned (.tuple #[])/\w'.heap[b]?=some (.cells #[.int .i64 a0,.int .i64 (if m then -1 else D1 n),.int .i64 a2,.int .i64 a3,.int .i64 a4,.int .i64 a5,.bool kp,.int .i64 a7,.int .i64 a8,.int .u64 pr,.int .i64 a10,.int .i64 a11] ty (0,0))/\w.grownBy w' (some b):=by
 have hidx:=Aq;cases m
 ·go_enter Tryz.func53,Tryz.ntmps53
  go_wp2_with (first|(go_at_call 76;refine(B4 _ _).mono ?_;rintro e w1 ⟨rfl,hg1⟩;obtain⟨hA,hB⟩:=cM hb hg1;have k0:=o6 hA 1 rfl;have k1:=o6 hB 0 rfl;have k2:=o6 hB 1 rfl;have k3:=B1 hA 1))
  go_end0
  exact⟨rfl,(X2 hA 1 _).trans (by rw[bn];rfl),X3 hb hg1 _ _⟩
 ·go_enter Tryz.func53,Tryz.ntmps53
  go_wp2_with (first|(go_at_call 76;refine(B4 _ _).mono ?_;rintro e w1 ⟨rfl,hg1⟩;obtain⟨hA,hB⟩:=cM hb hg1;have k0:=o6 hA 1 rfl;have k1:=o6 hB 0 rfl;have k2:=o6 hB 1 rfl;have k3:=B1 hA 1))
  go_end0
  exact⟨rfl,(X2 hA 1 _).trans rfl,X3 hb hg1 _ _⟩
set_option maxHeartbeats 4000000 in
set_option maxRecDepth 100000 in
theorem Mu{a0 a1 a2 a3 a4 a5:Int}{kp:Bool}{a7 a8 pr a10 a11:Int}{w:World}{b:Nat}{ty:TypeId}(hb:w.heap[b]?=some (.cells #[.int .i64 a0,.int .i64 a1,.int .i64 a2,.int .i64 a3,.int .i64 a4,.int .i64 a5,.bool kp,.int .i64 a7,.int .i64 a8,.int .u64 pr,.int .i64 a10,.int .i64 a11] ty (0,0))) (n:Int) (m:Bool):Calls Tryz.prog 53 #[.pointer (some ⟨b,0,none⟩),.int .i64 2,.agg #[.int .u64 n,.bool m]] w λe w'=>
  e= .returned (.tuple #[])/\w'.heap[b]?=some (.cells #[.int .i64 a0,.int .i64 a1,.int .i64 (if m then -1 else D1 n),.int .i64 a3,.int .i64 a4,.int .i64 a5,.bool kp,.int .i64 a7,.int .i64 a8,.int .u64 pr,.int .i64 a10,.int .i64 a11] ty (0,0))/\w.grownBy w' (some b):=by
 have hidx:=Ar;cases m
 ·go_enter Tryz.func53,Tryz.ntmps53
  go_wp2_with (first|(go_at_call 76;refine(B4 _ _).mono ?_;rintro e w1 ⟨rfl,hg1⟩;obtain⟨hA,hB⟩:=cM hb hg1;have k0:=o6 hA 2 rfl;have k1:=o6 hB 0 rfl;have k2:=o6 hB 1 rfl;have k3:=B1 hA 2))
  go_end0
  exact⟨rfl,(X2 hA 2 _).trans (by rw[bn];rfl),X3 hb hg1 _ _⟩
 ·go_enter Tryz.func53,Tryz.ntmps53
  go_wp2_with (first|(go_at_call 76;refine(B4 _ _).mono ?_;rintro e w1 ⟨rfl,hg1⟩;obtain⟨hA,hB⟩:=cM hb hg1;have k0:=o6 hA 2 rfl;have k1:=o6 hB 0 rfl;have k2:=o6 hB 1 rfl;have k3:=B1 hA 2))
  go_end0
  exact⟨rfl,(X2 hA 2 _).trans rfl,X3 hb hg1 _ _⟩
set_option maxHeartbeats 4000000 in
set_option maxRecDepth 100000 in
theorem Mv{a0 a1 a2 a3 a4 a5:Int}{kp:Bool}{a7 a8 pr a10 a11:Int}{w:World}{b:Nat}{ty:TypeId}(hb:w.heap[b]?=some (.cells #[.int .i64 a0,.int .i64 a1,.int .i64 a2,.int .i64 a3,.int .i64 a4,.int .i64 a5,.bool kp,.int .i64 a7,.int .i64 a8,.int .u64 pr,.int .i64 a10,.int .i64 a11] ty (0,0))) (n:Int) (m:Bool):Calls Tryz.prog 53 #[.pointer (some ⟨b,0,none⟩),.int .i64 3,.agg #[.int .u64 n,.bool m]] w λe w'=>
  e= .returned (.tuple #[])/\w'.heap[b]?=some (.cells #[.int .i64 a0,.int .i64 a1,.int .i64 a2,.int .i64 (if m then -1 else D1 n),.int .i64 a4,.int .i64 a5,.bool kp,.int .i64 a7,.int .i64 a8,.int .u64 pr,.int .i64 a10,.int .i64 a11] ty (0,0))/\w.grownBy w' (some b):=by
 have hidx:=As;cases m
 ·go_enter Tryz.func53,Tryz.ntmps53
  go_wp2_with (first|(go_at_call 76;refine(B4 _ _).mono ?_;rintro e w1 ⟨rfl,hg1⟩;obtain⟨hA,hB⟩:=cM hb hg1;have k0:=o6 hA 3 rfl;have k1:=o6 hB 0 rfl;have k2:=o6 hB 1 rfl;have k3:=B1 hA 3))
  go_end0
  exact⟨rfl,(X2 hA 3 _).trans (by rw[bn];rfl),X3 hb hg1 _ _⟩
 ·go_enter Tryz.func53,Tryz.ntmps53
  go_wp2_with (first|(go_at_call 76;refine(B4 _ _).mono ?_;rintro e w1 ⟨rfl,hg1⟩;obtain⟨hA,hB⟩:=cM hb hg1;have k0:=o6 hA 3 rfl;have k1:=o6 hB 0 rfl;have k2:=o6 hB 1 rfl;have k3:=B1 hA 3))
  go_end0
  exact⟨rfl,(X2 hA 3 _).trans rfl,X3 hb hg1 _ _⟩
set_option maxHeartbeats 4000000 in
set_option maxRecDepth 100000 in
theorem Mw{a0 a1 a2 a3 a4 a5:Int}{kp:Bool}{a7 a8 pr a10 a11:Int}{w:World}{b:Nat}{ty:TypeId}(hb:w.heap[b]?=some (.cells #[.int .i64 a0,.int .i64 a1,.int .i64 a2,.int .i64 a3,.int .i64 a4,.int .i64 a5,.bool kp,.int .i64 a7,.int .i64 a8,.int .u64 pr,.int .i64 a10,.int .i64 a11] ty (0,0))) (n:Int) (m:Bool):Calls Tryz.prog 53 #[.pointer (some ⟨b,0,none⟩),.int .i64 4,.agg #[.int .u64 n,.bool m]] w λe w'=>
  e= .returned (.tuple #[])/\w'.heap[b]?=some (.cells #[.int .i64 a0,.int .i64 a1,.int .i64 a2,.int .i64 a3,.int .i64 (if m then -1 else D1 n),.int .i64 a5,.bool kp,.int .i64 a7,.int .i64 a8,.int .u64 pr,.int .i64 a10,.int .i64 a11] ty (0,0))/\w.grownBy w' (some b):=by
 have hidx:=Au;cases m
 ·go_enter Tryz.func53,Tryz.ntmps53
  go_wp2_with (first|(go_at_call 76;refine(B4 _ _).mono ?_;rintro e w1 ⟨rfl,hg1⟩;obtain⟨hA,hB⟩:=cM hb hg1;have k0:=o6 hA 4 rfl;have k1:=o6 hB 0 rfl;have k2:=o6 hB 1 rfl;have k3:=B1 hA 4))
  go_end0
  exact⟨rfl,(X2 hA 4 _).trans (by rw[bn];rfl),X3 hb hg1 _ _⟩
 ·go_enter Tryz.func53,Tryz.ntmps53
  go_wp2_with (first|(go_at_call 76;refine(B4 _ _).mono ?_;rintro e w1 ⟨rfl,hg1⟩;obtain⟨hA,hB⟩:=cM hb hg1;have k0:=o6 hA 4 rfl;have k1:=o6 hB 0 rfl;have k2:=o6 hB 1 rfl;have k3:=B1 hA 4))
  go_end0
  exact⟨rfl,(X2 hA 4 _).trans rfl,X3 hb hg1 _ _⟩
set_option maxHeartbeats 4000000 in
set_option maxRecDepth 100000 in
theorem Mx{a0 a1 a2 a3 a4 a5:Int}{kp:Bool}{a7 a8 pr a10 a11:Int}{w:World}{b:Nat}{ty:TypeId}(hb:w.heap[b]?=some (.cells #[.int .i64 a0,.int .i64 a1,.int .i64 a2,.int .i64 a3,.int .i64 a4,.int .i64 a5,.bool kp,.int .i64 a7,.int .i64 a8,.int .u64 pr,.int .i64 a10,.int .i64 a11] ty (0,0))) (n:Int) (m:Bool):Calls Tryz.prog 53 #[.pointer (some ⟨b,0,none⟩),.int .i64 5,.agg #[.int .u64 n,.bool m]] w λe w'=>
  e= .returned (.tuple #[])/\w'.heap[b]?=some (.cells #[.int .i64 a0,.int .i64 a1,.int .i64 a2,.int .i64 a3,.int .i64 a4,.int .i64 (if m then -1 else D1 n),.bool kp,.int .i64 a7,.int .i64 a8,.int .u64 pr,.int .i64 a10,.int .i64 a11] ty (0,0))/\w.grownBy w' (some b):=by
 have hidx:=Av;cases m
 ·go_enter Tryz.func53,Tryz.ntmps53
  go_wp2_with (first|(go_at_call 76;refine(B4 _ _).mono ?_;rintro e w1 ⟨rfl,hg1⟩;obtain⟨hA,hB⟩:=cM hb hg1;have k0:=o6 hA 5 rfl;have k1:=o6 hB 0 rfl;have k2:=o6 hB 1 rfl;have k3:=B1 hA 5))
  go_end0
  exact⟨rfl,(X2 hA 5 _).trans (by rw[bn];rfl),X3 hb hg1 _ _⟩
 ·go_enter Tryz.func53,Tryz.ntmps53
  go_wp2_with (first|(go_at_call 76;refine(B4 _ _).mono ?_;rintro e w1 ⟨rfl,hg1⟩;obtain⟨hA,hB⟩:=cM hb hg1;have k0:=o6 hA 5 rfl;have k1:=o6 hB 0 rfl;have k2:=o6 hB 1 rfl;have k3:=B1 hA 5))
  go_end0
  exact⟨rfl,(X2 hA 5 _).trans rfl,X3 hb hg1 _ _⟩
set_option maxHeartbeats 4000000 in
set_option maxRecDepth 100000 in
theorem My{a0 a1 a2 a3 a4 a5:Int}{kp:Bool}{a7 a8 pr a10 a11:Int}{w:World}{b:Nat}{ty:TypeId}(hb:w.heap[b]?=some (.cells #[.int .i64 a0,.int .i64 a1,.int .i64 a2,.int .i64 a3,.int .i64 a4,.int .i64 a5,.bool kp,.int .i64 a7,.int .i64 a8,.int .u64 pr,.int .i64 a10,.int .i64 a11] ty (0,0))) (n:Int) (m:Bool):Calls Tryz.prog 53 #[.pointer (some ⟨b,0,none⟩),.int .i64 6,.agg #[.int .u64 n,.bool m]] w λe w'=>
  e= .returned (.tuple #[])/\w'.heap[b]?=some (.cells #[.int .i64 a0,.int .i64 a1,.int .i64 a2,.int .i64 a3,.int .i64 a4,.int .i64 a5,.bool (decide (n=1)),.int .i64 a7,.int .i64 a8,.int .u64 pr,.int .i64 a10,.int .i64 a11] ty (0,0))/\w.grownBy w' (some b):=by
 have hidx:=Aw
 go_enter Tryz.func53,Tryz.ntmps53
 go_wp2_with (first|(go_at_call 76;refine(B4 _ _).mono ?_;rintro e w1 ⟨rfl,hg1⟩;obtain⟨hA,hB⟩:=cM hb hg1;have k0:=o6 hA 6 rfl;have k1:=o6 hB 0 rfl;have k2:=o6 hB 1 rfl;have k3:=B1 hA 6))
 go_end0
 exact⟨rfl,(X2 hA 6 _).trans rfl,X3 hb hg1 _ _⟩
set_option maxHeartbeats 4000000 in
set_option maxRecDepth 100000 in
theorem Mz{a0 a1 a2 a3 a4 a5:Int}{kp:Bool}{a7 a8 pr a10 a11:Int}{w:World}{b:Nat}{ty:TypeId}(hb:w.heap[b]?=some (.cells #[.int .i64 a0,.int .i64 a1,.int .i64 a2,.int .i64 a3,.int .i64 a4,.int .i64 a5,.bool kp,.int .i64 a7,.int .i64 a8,.int .u64 pr,.int .i64 a10,.int .i64 a11] ty (0,0))) (n:Int) (m:Bool):Calls Tryz.prog 53 #[.pointer (some ⟨b,0,none⟩),.int .i64 7,.agg #[.int .u64 n,.bool m]] w λe w'=>
  e= .returned (.tuple #[])/\w'.heap[b]?=some (.cells #[.int .i64 a0,.int .i64 a1,.int .i64 a2,.int .i64 a3,.int .i64 a4,.int .i64 a5,.bool kp,.int .i64 (if m then -1 else D1 n),.int .i64 a8,.int .u64 pr,.int .i64 a10,.int .i64 a11] ty (0,0))/\w.grownBy w' (some b):=by
 have hidx:=Ax;cases m
 ·go_enter Tryz.func53,Tryz.ntmps53
  go_wp2_with (first|(go_at_call 76;refine(B4 _ _).mono ?_;rintro e w1 ⟨rfl,hg1⟩;obtain⟨hA,hB⟩:=cM hb hg1;have k0:=o6 hA 7 rfl;have k1:=o6 hB 0 rfl;have k2:=o6 hB 1 rfl;have k3:=B1 hA 7))
  go_end0
  exact⟨rfl,(X2 hA 7 _).trans (by rw[bn];rfl),X3 hb hg1 _ _⟩
 ·go_enter Tryz.func53,Tryz.ntmps53
  go_wp2_with (first|(go_at_call 76;refine(B4 _ _).mono ?_;rintro e w1 ⟨rfl,hg1⟩;obtain⟨hA,hB⟩:=cM hb hg1;have k0:=o6 hA 7 rfl;have k1:=o6 hB 0 rfl;have k2:=o6 hB 1 rfl;have k3:=B1 hA 7))
  go_end0
  exact⟨rfl,(X2 hA 7 _).trans rfl,X3 hb hg1 _ _⟩
set_option maxHeartbeats 4000000 in
set_option maxRecDepth 100000 in
theorem MA{a0 a1 a2 a3 a4 a5:Int}{kp:Bool}{a7 a8 pr a10 a11:Int}{w:World}{b:Nat}{ty:TypeId}(hb:w.heap[b]?=some (.cells #[.int .i64 a0,.int .i64 a1,.int .i64 a2,.int .i64 a3,.int .i64 a4,.int .i64 a5,.bool kp,.int .i64 a7,.int .i64 a8,.int .u64 pr,.int .i64 a10,.int .i64 a11] ty (0,0))) (n:Int) (m:Bool):Calls Tryz.prog 53 #[.pointer (some ⟨b,0,none⟩),.int .i64 8,.agg #[.int .u64 n,.bool m]] w λe w'=>
  e= .returned (.tuple #[])/\w'.heap[b]?=some (.cells #[.int .i64 a0,.int .i64 a1,.int .i64 a2,.int .i64 a3,.int .i64 a4,.int .i64 a5,.bool kp,.int .i64 a7,.int .i64 (if m then -1 else D1 n),.int .u64 pr,.int .i64 a10,.int .i64 a11] ty (0,0))/\w.grownBy w' (some b):=by
 have hidx:=Ay;cases m
 ·go_enter Tryz.func53,Tryz.ntmps53
  go_wp2_with (first|(go_at_call 76;refine(B4 _ _).mono ?_;rintro e w1 ⟨rfl,hg1⟩;obtain⟨hA,hB⟩:=cM hb hg1;have k0:=o6 hA 8 rfl;have k1:=o6 hB 0 rfl;have k2:=o6 hB 1 rfl;have k3:=B1 hA 8))
  go_end0
  exact⟨rfl,(X2 hA 8 _).trans (by rw[bn];rfl),X3 hb hg1 _ _⟩
 ·go_enter Tryz.func53,Tryz.ntmps53
  go_wp2_with (first|(go_at_call 76;refine(B4 _ _).mono ?_;rintro e w1 ⟨rfl,hg1⟩;obtain⟨hA,hB⟩:=cM hb hg1;have k0:=o6 hA 8 rfl;have k1:=o6 hB 0 rfl;have k2:=o6 hB 1 rfl;have k3:=B1 hA 8))
  go_end0
  exact⟨rfl,(X2 hA 8 _).trans rfl,X3 hb hg1 _ _⟩
set_option maxHeartbeats 4000000 in
set_option maxRecDepth 100000 in
theorem MB{a0 a1 a2 a3 a4 a5:Int}{kp:Bool}{a7 a8 pr a10 a11:Int}{w:World}{b:Nat}{ty:TypeId}(hb:w.heap[b]?=some (.cells #[.int .i64 a0,.int .i64 a1,.int .i64 a2,.int .i64 a3,.int .i64 a4,.int .i64 a5,.bool kp,.int .i64 a7,.int .i64 a8,.int .u64 pr,.int .i64 a10,.int .i64 a11] ty (0,0))) (n:Int) (m:Bool):Calls Tryz.prog 53 #[.pointer (some ⟨b,0,none⟩),.int .i64 9,.agg #[.int .u64 n,.bool m]] w λe w'=>
  e= .returned (.tuple #[])/\w'.heap[b]?=some (.cells #[.int .i64 a0,.int .i64 a1,.int .i64 a2,.int .i64 a3,.int .i64 a4,.int .i64 a5,.bool kp,.int .i64 a7,.int .i64 a8,.int .u64 n,.int .i64 a10,.int .i64 a11] ty (0,0))/\w.grownBy w' (some b):=by
 have hidx:=Az
 go_enter Tryz.func53,Tryz.ntmps53
 go_wp2_with (first|(go_at_call 76;refine(B4 _ _).mono ?_;rintro e w1 ⟨rfl,hg1⟩;obtain⟨hA,hB⟩:=cM hb hg1;have k0:=o6 hA 9 rfl;have k1:=o6 hB 0 rfl;have k2:=o6 hB 1 rfl;have k3:=B1 hA 9))
 go_end0
 exact⟨rfl,(X2 hA 9 _).trans rfl,X3 hb hg1 _ _⟩
set_option maxHeartbeats 4000000 in
set_option maxRecDepth 100000 in
theorem JB{a0 a1 a2 a3 a4 a5:Int}{kp:Bool}{a7 a8 pr a10 a11:Int}{w:World}{b:Nat}{ty:TypeId}(hb:w.heap[b]?=some (.cells #[.int .i64 a0,.int .i64 a1,.int .i64 a2,.int .i64 a3,.int .i64 a4,.int .i64 a5,.bool kp,.int .i64 a7,.int .i64 a8,.int .u64 pr,.int .i64 a10,.int .i64 a11] ty (0,0))) (n:Int) (m:Bool):Calls Tryz.prog 53 #[.pointer (some ⟨b,0,none⟩),.int .i64 10,.agg #[.int .u64 n,.bool m]] w λe w'=>
  e= .returned (.tuple #[])/\w'.heap[b]?=some (.cells #[.int .i64 a0,.int .i64 a1,.int .i64 a2,.int .i64 a3,.int .i64 a4,.int .i64 a5,.bool kp,.int .i64 a7,.int .i64 a8,.int .u64 pr,.int .i64 (if m then -1 else D1 n),.int .i64 a11] ty (0,0))/\w.grownBy w' (some b):=by
 have hidx:=vS;cases m
 ·go_enter Tryz.func53,Tryz.ntmps53
  go_wp2_with (first|(go_at_call 76;refine(B4 _ _).mono ?_;rintro e w1 ⟨rfl,hg1⟩;obtain⟨hA,hB⟩:=cM hb hg1;have k0:=o6 hA 10 rfl;have k1:=o6 hB 0 rfl;have k2:=o6 hB 1 rfl;have k3:=B1 hA 10))
  go_end0
  exact⟨rfl,(X2 hA 10 _).trans (by rw[bn];rfl),X3 hb hg1 _ _⟩
 ·go_enter Tryz.func53,Tryz.ntmps53
  go_wp2_with (first|(go_at_call 76;refine(B4 _ _).mono ?_;rintro e w1 ⟨rfl,hg1⟩;obtain⟨hA,hB⟩:=cM hb hg1;have k0:=o6 hA 10 rfl;have k1:=o6 hB 0 rfl;have k2:=o6 hB 1 rfl;have k3:=B1 hA 10))
  go_end0
  exact⟨rfl,(X2 hA 10 _).trans rfl,X3 hb hg1 _ _⟩
set_option maxHeartbeats 4000000 in
set_option maxRecDepth 100000 in
theorem JC{a0 a1 a2 a3 a4 a5:Int}{kp:Bool}{a7 a8 pr a10 a11:Int}{w:World}{b:Nat}{ty:TypeId}(hb:w.heap[b]?=some (.cells #[.int .i64 a0,.int .i64 a1,.int .i64 a2,.int .i64 a3,.int .i64 a4,.int .i64 a5,.bool kp,.int .i64 a7,.int .i64 a8,.int .u64 pr,.int .i64 a10,.int .i64 a11] ty (0,0))) (n:Int) (m:Bool):Calls Tryz.prog 53 #[.pointer (some ⟨b,0,none⟩),.int .i64 11,.agg #[.int .u64 n,.bool m]] w λe w'=>
  e= .returned (.tuple #[])/\w'.heap[b]?=some (.cells #[.int .i64 a0,.int .i64 a1,.int .i64 a2,.int .i64 a3,.int .i64 a4,.int .i64 a5,.bool kp,.int .i64 a7,.int .i64 a8,.int .u64 pr,.int .i64 a10,.int .i64 (if m then -1 else D1 n)] ty (0,0))/\w.grownBy w' (some b):=by
 have hidx:=vT;cases m
 ·go_enter Tryz.func53,Tryz.ntmps53
  go_wp2_with (first|(go_at_call 76;refine(B4 _ _).mono ?_;rintro e w1 ⟨rfl,hg1⟩;obtain⟨hA,hB⟩:=cM hb hg1;have k0:=o6 hA 11 rfl;have k1:=o6 hB 0 rfl;have k2:=o6 hB 1 rfl;have k3:=B1 hA 11))
  go_end0
  exact⟨rfl,(X2 hA 11 _).trans (by rw[bn];rfl),X3 hb hg1 _ _⟩
 ·go_enter Tryz.func53,Tryz.ntmps53
  go_wp2_with (first|(go_at_call 76;refine(B4 _ _).mono ?_;rintro e w1 ⟨rfl,hg1⟩;obtain⟨hA,hB⟩:=cM hb hg1;have k0:=o6 hA 11 rfl;have k1:=o6 hB 0 rfl;have k2:=o6 hB 1 rfl;have k3:=B1 hA 11))
  go_end0
  exact⟨rfl,(X2 hA 11 _).trans rfl,X3 hb hg1 _ _⟩
def MC(c:eu) (i:Nat) (n:Int) (m:Bool):eu:=
 let (a0,a1,a2,a3,a4,a5,kp,a7,a8,pr,a10,a11):=c
 match i with
 |0=>(if m then -1 else D1 n,a1,a2,a3,a4,a5,kp,a7,a8,pr,a10,a11)
 |1=>(a0,if m then -1 else D1 n,a2,a3,a4,a5,kp,a7,a8,pr,a10,a11)
 |2=>(a0,a1,if m then -1 else D1 n,a3,a4,a5,kp,a7,a8,pr,a10,a11)
 |3=>(a0,a1,a2,if m then -1 else D1 n,a4,a5,kp,a7,a8,pr,a10,a11)
 |4=>(a0,a1,a2,a3,if m then -1 else D1 n,a5,kp,a7,a8,pr,a10,a11)
 |5=>(a0,a1,a2,a3,a4,if m then -1 else D1 n,kp,a7,a8,pr,a10,a11)
 |6=>(a0,a1,a2,a3,a4,a5,decide (n=1),a7,a8,pr,a10,a11)
 |7=>(a0,a1,a2,a3,a4,a5,kp,if m then -1 else D1 n,a8,pr,a10,a11)
 |8=>(a0,a1,a2,a3,a4,a5,kp,a7,if m then -1 else D1 n,pr,a10,a11)
 |9=>(a0,a1,a2,a3,a4,a5,kp,a7,a8,n,a10,a11)
 |10=>(a0,a1,a2,a3,a4,a5,kp,a7,a8,pr,if m then -1 else D1 n,a11)
 |_=>(a0,a1,a2,a3,a4,a5,kp,a7,a8,pr,a10,if m then -1 else D1 n)
theorem DL{c:eu}{w:World}{b:Nat}{ty:TypeId}(hb:w.heap[b]?=some (.cells (xS c).toArray ty (0,0))) (n:Int) (m:Bool):∀i:Nat,i<12->Calls Tryz.prog 53 #[.pointer (some ⟨b,0,none⟩),.int .i64 (i:Int),.agg #[.int .u64 n,.bool m]] w λe w'=>
  e= .returned (.tuple #[])/\w'.heap[b]?=some (.cells (xS (MC c i n m)).toArray ty (0,0))/\w.grownBy w' (some b)
 |0,_=>Ms hb n m
 |1,_=>Mt hb n m
 |2,_=>Mu hb n m
 |3,_=>Mv hb n m
 |4,_=>Mw hb n m
 |5,_=>Mx hb n m
 |6,_=>My hb n m
 |7,_=>Mz hb n m
 |8,_=>MA hb n m
 |9,_=>MB hb n m
 |10,_=>JB hb n m
 |11,_=>JC hb n m
def cV(c:eu) (i:Int) (v:Int×Bool):Option eu:=chk (decide (0<=i/\i<12)) (some (MC c i.toNat v.1 v.2))
def V4:TFn:=⟨.cons (.bx (.cons (.d Mr) .nil)) (.cons (.c (.d (.int .i64))) (.cons (.agg (.cons (.d JA) .nil)) .nil)),.cons (.cons (.d Mr) .nil) .nil,.nil,eu,λa=>cV a.1.1 a.2.1 a.2.2.1.1,λr=>(((r,()),()),()),.none⟩
theorem AA{I:Nat->Nat->Prop}{w:World}:∀(vs:List Value),(∀v∈vs,v.oneCell'=true)->OCs I w (vs.map λv=>.d (.v v)) vs []
 |[],_=>⟨rfl,rfl⟩
 |v::vs,h=>by
  simp only[PQ,OCs];exact⟨v,vs,[],[],rfl,⟨rfl,⟨rfl,h v (by simp)⟩⟩,AA vs λx hx=>h x (by simp[hx]),rfl⟩
theorem Hj(c:eu):∀v∈xS c,v.oneCell'=true:=by
 intro v hv;simp only[xS,QY,SI,or_false]at hv;rcases hv with h|h|h|h|h|h|h|h|h|h|h|h <;> rw[h] <;> rfl
theorem py:FnT Tryz.prog 53 V4:=
 ⟨rfl,rfl,⟨trivial,⟨_,Tryz.func53,rfl,rfl⟩,λw I F args xs hIn hgl hargs hF hp=>by
  obtain⟨a,r,rfl,hr⟩:=hp;obtain⟨⟨c,u1⟩,i,⟨v,u2⟩,u⟩:=a;change eu at c;change Int at i;change Int×Bool at v;obtain⟨v0,v1⟩:=v;have hr':cV c i (v0,v1)=some r:=hr;obtain⟨hc,hr'⟩:=L9 hr';obtain⟨c1,c2⟩:=PN hc;obtain⟨n,rfl⟩:=RW c1;injection hr' with hr';rw[PY]at hr'
  replace hargs:OAs I w [.bx ((xS c).map λv=>.d (.v v)),.c (.d (.v (.int .i64 (n:Int)))),.agg [.d (.v (.int .u64 v0)),.d (.v (.bool v1))]] args.toList F:=hargs
  simp only[OAs,OAr]at hargs;obtain⟨x,q1,F1,F2,e1,h1,⟨y,q2,F3,F4,rfl,h2,⟨z,q3,F5,F6,rfl,⟨vs,rfl,h3⟩,⟨rfl,rfl⟩,rfl⟩,rfl⟩,rfl⟩:=hargs;simp only[OCr,DVr]at h2;obtain⟨rfl,rfl,_⟩:=h2;obtain⟨h4,rfl⟩:=iT (vs:=[.int .u64 v0,.bool v1]) h3;have hvs:vs= #[.int .u64 v0,.bool v1]:=by cases vs;simp only at h4;subst h4;rfl
  subst hvs;simp only[OCr]at h1;obtain⟨b,cur,ty,Fs,rfl,hb,h5,rfl,hbI⟩:=h1;obtain⟨h6,rfl⟩:=iT h5;have hcur:cur=(xS c).toArray:=by rw[<-h6]
  subst hcur;have ha:args= #[.pointer (some ⟨b,0,none⟩),.int .i64 (n:Int),.agg #[.int .u64 v0,.bool v1]]:=by cases args;simp only at e1;subst e1;rfl
  subst ha;refine Calls.mono (DL hb v0 v1 n (by omega)) λe w' h=>?_;rw[hr']at h;obtain⟨rfl,hb',hg⟩:=h;have hbl:b<w.heap.size:=(Array.getElem?_eq_some_iff.1 hb).1;refine⟨I,[],[b],[],rfl,⟨⟨hg.os,hg.tape,hg.output,hg.size,λk hk hm=>hg.block k hk (λe=>hm (by injection e with e;simp[e]))⟩,λ_ _ h=>h,λk o hi=>dY (hg.block k (hIn k o hi) λe=>by injection e with e;subst e;exact hbI o hi),λ_ _ h=>.inl h,λk o hi=>Qi (hIn k o hi) hg.size,?_,?_,by simp,λk hk=>?_,λ_ _ h _=>h,λ_ _ h _ n=>absurd h n⟩⟩
  ·have e1:(V4.spec.post (V4.args.oas ((c,u1),(n:Int),((v0,v1),u2),u)))=[.bx ((xS r).map λv=>.d (.v v))]:=
    (TFn.post_of (S:=V4) (a:=((c,u1),(n:Int),((v0,v1),u2),u)) (r:=r) rfl hr).trans rfl
   have key:OAs I w' [.bx ((xS r).map λv=>.d (.v v))] [.pointer (some ⟨b,0,none⟩)] [b]:=by
    simp only[OAs,OAr,OCr];exact⟨_,_,[b],[],rfl,⟨b,_,ty,[],rfl,hb',AA _ (Hj r),rfl,hbI⟩,⟨rfl,rfl⟩,rfl⟩
   exact Eq.mpr (congrArg (λl=>OAs I w' l [.pointer (some ⟨b,0,none⟩)] [b]) e1) key
  ·have e2:V4.spec.res (V4.args.oas ((c,u1),(n:Int),((v0,v1),u2),u))=[]:=(TFn.res_of (S:=V4) (a:=((c,u1),(n:Int),((v0,v1),u2),u)) (r:=r) rfl hr).trans rfl;exact Eq.mpr (congrArg (λl=>OAs I w' l [] []) e2) ⟨rfl,rfl⟩
  ·left;simpa using hk⟩⟩
end Go.Proofs.YthkhcbphbabefaaGreat.Am
namespace Go.Proofs.YthkhcbphbabefaaGreat.Am
open Go Go.Shelf Go.Proofs Go.RowKit
def Fv{α:Type}(d0:α) (cf:α->α->Int) (l:List α):List α:=
 haveI:Inhabited α:=⟨d0⟩
 (Sort.pdq (ltOf cf) l.toArray 0 l.length (Lib.bitLen l.length) true true).toList
theorem qZ{α:Type}(d0:α) (cf:α->α->Int) (hO:haveI:Inhabited α:=⟨d0⟩;Sort.SWO (ltOf cf)) (l:List α):(Fv d0 cf l).Perm l/\(Fv d0 cf l).Pairwise λx y=>ltOf cf y x=false:=by
 letI:Inhabited α:=⟨d0⟩
 have h:=Sort.pdq_sorts (ltOf cf) hO l.toArray 0 l.toArray.size (Lib.bitLen l.length) true true (QE _) (PW _) (Or.inl rfl);obtain⟨⟨h1,h2,h3⟩,h4⟩:=h;have e1:l.toArray.size=l.length:=QC;have hs:Fv d0 cf l=(Sort.pdq (ltOf cf) l.toArray 0 l.toArray.size (Lib.bitLen l.length) true true).toList:=by rw[e1];rfl
 rw[hs];generalize Sort.pdq (ltOf cf) l.toArray 0 l.toArray.size (Lib.bitLen l.length) true true=d at h1 h2 h3 h4;constructor
 ·have e2:d.extract 0 l.toArray.size=d:=by rw[<-h1,Array.extract_size]
  rw[e2,Array.extract_size]at h3;exact h3
 ·rw[List.pairwise_iff_getElem];intro i j hi hj hij;have hj':j<d.size:=by simpa using hj
  have hi':i<d.size:=by simpa using hi
  have:=h4 i j (QE _) hij (by rw[<-h1];exact hj')
  rwa [getElem!_pos d j hj',getElem!_pos d i hi']at this
theorem vU{α:Type}(d0:α) (cf:α->α->Int) (hO:haveI:Inhabited α:=⟨d0⟩;Sort.SWO (ltOf cf)) (l:List α):(Fv d0 cf l).length=l.length:=(qZ d0 cf hO l).1.length_eq
def pz(u:U) (e:TypeId) (g:FuncId) (cf:u.den->u.den->Int):TFn:=⟨.cons (.rx u e) (.cons (.c (.fn g)) .nil),.rcons u e .nil,.nil,List u.den,λa=>chk (Nat.blt a.1.length 4611686018427387904) (some (Fv u.dflt cf a.1)),λr=>((r,()),()),.none⟩
theorem DM{P:Program}{ρ:Ren}(L:SlLaysF0.n6 P ρ){fn:Func}(hf:P.funcs[ρ.f 6]?=some fn) (hb:fn.body.isSome=true) (hn:(fn.name== "runtime.NumGoroutine")=false) (u:U) (hu:u.flat=true) (e:TypeId) (he:e<Q7)
  (aE:∀w,(isAgg (ρ.t 24)).run P w= .ok true w) (zE:∀w,(Go.sizeOf (ρ.t 24)).run P w= .ok u.size w) (cf:u.den->u.den->Int) (hO:haveI:Inhabited u.den:=⟨u.dflt⟩;Sort.SWO (ltOf cf)) (g:FuncId) (eg:∀args w,(callFunc g args).run P w= .ok (.enter g args) w)
  (hc:∀(x y:u.den) (W:World),Calls P g #[.agg (u.encV x).toArray,.agg (u.encV y).toArray] W λo w'=>o= .returned (.int .i64 (cf x y))/\∃q os,w'=Sort.grow (W.drewN q) os):FnT P (ρ.f 6) (pz u e g cf):=
 ⟨rfl,rfl,⟨trivial,⟨fn,hf,hb,hn⟩,λw I F args xs hIn hgl hargs hF hp=>by
  letI:Inhabited u.den:=⟨u.dflt⟩
  obtain⟨⟨l,u1,u2⟩,r,rfl,hr⟩:=hp;change List u.den at l;change List u.den at r
  replace hargs:OAs I w [.rx u.size e (l.map u.enc),.c (.d (.v (.func (.func g) #[] #[])))] args.toList F:=hargs
  simp only[OAs,OAr,OCr,DVr]at hargs;obtain⟨v,r1,F1,F2,e1,⟨ex,hrow,hF1,hI,_⟩,⟨x2,r2,F3,F4,rfl,⟨rfl,rfl,_⟩,⟨rfl,rfl⟩,rfl⟩,rfl⟩:=hargs;rw[Ql (D3 he),PO]at hF1;subst hF1;have ha:args= #[v,.func (.func g) #[] #[]]:=by
   cases args;simp only at e1;subst e1;rfl
  subst ha
  replace hr:chk (Nat.blt l.length 4611686018427387904) (some (Fv u.dflt cf l))=some r:=hr
  obtain⟨hlen,hr⟩:=L9 hr;injection hr with hr;have hlen:l.length<4611686018427387904:=by simpa [Tw]using hlen
  have epost:((pz u e g cf).spec.post ((pz u e g cf).args.oas (l,u1,u2)))=[.rx u.size e (r.map u.enc)]:=by
   rw[TFn.post_of (S:=pz u e g cf) (a:=(l,u1,u2)) (r:=r) rfl (by show chk _ _=_;rw[show Nat.blt l.length 4611686018427387904=true by simpa [Tw]using hlen,hr];rfl)];rfl
  have eres:((pz u e g cf).spec.res ((pz u e g cf).args.oas (l,u1,u2)))=[]:=by
   rw[TFn.res_of (S:=pz u e g cf) (a:=(l,u1,u2)) (r:=r) rfl (by show chk _ _=_;rw[show Nat.blt l.length 4611686018427387904=true by simpa [Tw]using hlen,hr];rfl)];rfl
  obtain⟨hz,hes,xs,ho,hd⟩:=hrow.sl he;simp only[PR]at ho;rcases ho.2 with⟨rfl,hl0⟩|⟨b,cap,cur,rfl,_,hg,hcap,hmax,hcs,htk⟩
  ·have hl:l=[]:=Qd hl0;subst hl;have hr0:r=[]:=by
    rw[<-hr];exact Qd (vU u.dflt cf hO [])
   refine Calls.mono (AnyF.slices_SortFunc_none L none 0 _ w) λo w' h=>?_;obtain⟨rfl,rfl⟩:=h;refine⟨I,[],[],[],rfl,⟨⟨rfl,rfl,rfl,PW _,λ_ _ _=>rfl⟩,λ_ _ h=>h,U9.refl _ _,λ_ _ h=>.inl h,hIn,?_,?_,by simp,by simp,λ_ _ h _=>h,λ_ _ h _ n=>absurd h n⟩⟩
   ·rw[epost,hr0];exact⟨.slice none 0 0,[],[],[],rfl,⟨[],hrow,by rw[Ql (D3 he),PO];rfl,hI,λh=>absurd h (D3 he)⟩,⟨rfl,rfl⟩,rfl⟩
   ·rw[eres];exact⟨rfl,rfl⟩
  ·have hblk:b<w.heap.size:=(Array.getElem?_eq_some_iff.1 hg).1;have hbI:∀o,¬I b o:=λo=>hI b o rfl;have hcs':l.length*u.size<=cur.size:=by rw[hcs];exact QA _ hcap
   have hget:∀j,j<l.length*u.size->cur[j]?=some ((u.encV (l.toArray[j / u.size]!))[j%u.size]!):=λj hj=>by
    have hi:j / u.size<l.length:=Nat.div_lt_of_lt_mul (by rw[Nat.mul_comm];exact hj);have hm:j%u.size<u.size:=Nat.mod_lt _ hz;have h1:=D2.get hd (z:=u.size) (λe' he'=>by obtain⟨x,_,rfl⟩:=List.mem_map.1 he';exact U.enc_len u x) (i:=j / u.size) (e:=u.enc l[j / u.size]) (by simp[hi]);have h2:=U.encV_of u hu _ h1;have h3:l.toArray[j / u.size]! =l[j / u.size]:=by simp[hi]
    rw[h3,<-h2,<-htk];have h4:j / u.size*u.size+j%u.size=j:=Nat.div_add_mod' j u.size;have hjc:j<cur.size:=by omega
    have h5:(((cur.toList.take (l.length*u.size)).drop (j / u.size*u.size)).take u.size)[j%u.size]?=some cur[j]:=by
     rw[List.getElem?_take_of_lt hm,List.getElem?_drop,h4,List.getElem?_take_of_lt hj,Array.getElem?_toList,Array.getElem?_eq_getElem hjc]
    rw[Array.getElem?_eq_getElem hjc,List.getElem!_eq_getElem?_getD,h5];rfl
   have hH:Sort.HoldsK u.encV u.size w b 0 l.toArray:=λj hj=>by
    rw[Sort.size_flatK,QC]at hj;rw[Qo,Sort.get_flatK _ _ _ _ (by rw[QC];exact hj)];refine⟨?_,by simp[World.frozen?,hg]⟩;simp only[World.cell?,hg,id];exact hget j hj
   have hcon:=AnyQ.slices_SortFunc_eq L u.size aE zE u.encV u.encV_len u.encV_one cf hO g #[] b 0 cap l.toArray w eg (λm os dk _ x y=>by simpa using hc x y _) hH hblk hlen;refine Calls.mono hcon λo w' h=>?_;obtain⟨rfl,n,os,rfl⟩:=h;have hr':Sort.pdq (ltOf cf) l.toArray 0 l.toArray.size (Lib.bitLen l.toArray.size) true true=r.toArray:=by
    rw[<-hr];exact(Sd).symm
   rw[hr'];have hrl:r.length=l.length:=by rw[<-hr];exact vU u.dflt cf hO l
   have hheap:∀x,x<w.heap.size->(sortWorldK u.encV u.size w b 0 n r.toArray os).heap[x]?=if b=x then(w.heap[x]?).map (Sort.onCells (Sort.putCells id 0 (Sort.flatK u.encV u.size r.toArray)))else w.heap[x]?:=λx hx=>by
    unfold sortWorldK Sort.grow Sort.putRowK Sort.putRow Sort.mapBlock Sort.ahead;simp only[Array.getElem?_append,Array.size_modify,hx,Qy,Array.getElem?_modify]
   have hsize:w.heap.size<=(sortWorldK u.encV u.size w b 0 n r.toArray os).heap.size:=by
    unfold sortWorldK Sort.grow;simp[Sort.putRowK,Sort.ahead]
   have hb':(sortWorldK u.encV u.size w b 0 n r.toArray os).heap[b]?=some (.cells (Sort.putCells id 0 (Sort.flatK u.encV u.size r.toArray) cur) e (0,0)):=by
    rw[hheap b hblk,Qx rfl,hg];rfl
   have hother:∀x,x<w.heap.size->x≠b->(sortWorldK u.encV u.size w b 0 n r.toArray os).heap[x]?=w.heap[x]?:=λx hx hne=>by
    rw[hheap x hx,Ql (λh=>hne h.symm)]
   have hos:(sortWorldK u.encV u.size w b 0 n r.toArray os).os=w.os:=rfl;have htp:(sortWorldK u.encV u.size w b 0 n r.toArray os).tape=w.tape:=rfl;have hou:(sortWorldK u.encV u.size w b 0 n r.toArray os).output=w.output:=rfl;generalize sortWorldK u.encV u.size w b 0 n r.toArray os=w' at hheap hsize hb' hother hos htp hou⊢;have hks:U9 I w w':=λx o hi=>dY (hother x (hIn x o hi) (λh=>hbI o (h▸hi)));refine⟨I,[],[b],[],rfl,⟨⟨hos,htp,hou,hsize,λx hx hne=>hother x hx (λh=>hne (by subst h;simp[obk]))⟩,λ_ _ h=>h,hks,λ_ _ h=>.inl h,λx o hi=>Qi (hIn x o hi) hsize,?_,?_,by simp,by simp[obk],λ_ _ h _=>h,λ_ _ h _ n=>absurd h n⟩⟩
   ·rw[epost];refine⟨_,[],[b],[],rfl,⟨[],?_,by rw[Ql (D3 he),PO];rfl,hI,λh=>absurd h (D3 he)⟩,⟨rfl,rfl⟩,rfl⟩;have hpc:(Sort.putCells id 0 (Sort.flatK u.encV u.size r.toArray) cur).size=cur.size:=by simp[Sort.putCells]
    refine⟨hz,λe' he'=>by obtain⟨x,_,rfl⟩:=List.mem_map.1 he';exact U.enc_len u x,.inl ⟨he,_,⟨?_,.inr ⟨b,cap,_,?_,QE _,hb',?_,hmax,?_,rfl⟩⟩,?_⟩⟩
    ·simp only[PR,hrl];rw[Qb,show(Sort.putCells id 0 (Sort.flatK u.encV u.size r.toArray) cur).toList.length=cur.size from hpc];omega
    ·simp only[PR,hrl]
    ·simp only[PR,hrl];exact hcap
    ·rw[hpc];exact hcs
    ·refine D2.of_get (z:=u.size) ?_ λi e' hi=>?_
     ·simp only[PR,hrl];rw[Qb,show(Sort.putCells id 0 (Sort.flatK u.encV u.size r.toArray) cur).toList.length=cur.size from hpc];omega
     ·obtain⟨hi',rfl⟩:=List.getElem?_eq_some_iff.1 hi;simp only[PR]at hi';simp only[Tj,PR];have:(((Sort.putCells id 0 (Sort.flatK u.encV u.size r.toArray) cur).toList.take (r.length*u.size)).drop (i*u.size)).take u.size=u.encV r[i]:=by
       refine List.ext_getElem? λm=>?_;by_cases hm:m<u.size
       ·have hj:i*u.size+m<r.length*u.size:=by
         have:(i+1)*u.size<=r.length*u.size:=QA _ hi';rw[QD]at this;omega
        have hjc:i*u.size+m<cur.size:=by rw[hrl]at hj;omega
        rw[List.getElem?_take_of_lt hm,List.getElem?_drop,List.getElem?_take_of_lt hj,Array.getElem?_toList];simp only[Sort.putCells,Array.getElem?_mapIdx,Array.getElem?_eq_getElem hjc,Qm,QE,true_and,Qo,Sort.size_flatK,QC,hj,Qy,Tn,id];rw[Sort.get_flatK _ _ _ _ (by rw[QC];exact hj)];have e1:(i*u.size+m) / u.size=i:=by rw[Nat.mul_comm,Nat.mul_add_div hz,Nat.div_eq_of_lt hm];rfl
        have e2:(i*u.size+m)%u.size=m:=by rw[Nat.mul_comm,Nat.mul_add_mod,Ti hm]
        rw[e1,e2];have e3:r.toArray[i]! =r[i]:=by simp[hi']
        have hm':m<(u.encV r[i]).length:=by rw[U.encV_len];exact hm
        rw[e3,getElem!_pos _ m hm',List.getElem?_eq_getElem hm']
       ·rw[List.getElem?_eq_none (by rw[Qb];omega),List.getElem?_eq_none (by rw[U.encV_len];omega)]
      rw[this];exact U.encV_to u hu _
   ·rw[eres];exact⟨rfl,rfl⟩⟩⟩
end Go.Proofs.YthkhcbphbabefaaGreat.Am
namespace Go.Proofs
open Go.Shelf
def Tryz.sortItems_ren:Go.Shelf.Ren:=⟨fun | 6=>65 | 15=>90 | 14=>91 | 28=>106 | 29=>107 | 20=>108 | 21=>109 | 22=>110 | 23=>111 | 24=>112 | 25=>113 | 26=>114 | 27=>115 | 46=>122 | 47=>118 | 48=>119 | 49=>123 | 50=>124 | 57=>126 | n=>n,fun | 22=>89 | 24=>82 | 25=>144 | 3=>3 | 39=>153 | 0=>0 | 53=>122 | 55=>27 | 4=>4 | 46=>171 | 45=>170 | 50=>73 | 5=>5 | 9=>9 | 66=>186 | 70=>148 | 76=>193 | 77=>194 | n=>n,fun | n=>n⟩
theorem Tryz.sortItems:Go.Proofs.SlLaysF0.n6 Tryz.prog Tryz.sortItems_ren:={
 mixed:=by kernel_rfl
 f6:=⟨Tryz.f65.name,by decide,Tryz.func65.trans (congrArg some (by kernel_rfl))⟩
 f14:=⟨Tryz.f91.name,by decide,Tryz.func91.trans (congrArg some (by kernel_rfl))⟩
 f15:=Tryz.func90.trans (congrArg some (by kernel_rfl))
 f20:=⟨Tryz.f108.name,by decide,Tryz.func108.trans (congrArg some (by kernel_rfl))⟩
 f21:=⟨Tryz.f109.name,by decide,Tryz.func109.trans (congrArg some (by kernel_rfl))⟩
 f22:=⟨Tryz.f110.name,by decide,Tryz.func110.trans (congrArg some (by kernel_rfl))⟩
 f23:=⟨Tryz.f111.name,by decide,Tryz.func111.trans (congrArg some (by kernel_rfl))⟩
 f24:=⟨Tryz.f112.name,by decide,Tryz.func112.trans (congrArg some (by kernel_rfl))⟩
 f25:=⟨Tryz.f113.name,by decide,Tryz.func113.trans (congrArg some (by kernel_rfl))⟩
 f26:=⟨Tryz.f114.name,by decide,Tryz.func114.trans (congrArg some (by kernel_rfl))⟩
 f27:=⟨Tryz.f115.name,by decide,Tryz.func115.trans (congrArg some (by kernel_rfl))⟩
 f28:=Tryz.func106.trans (congrArg some (by kernel_rfl))
 f29:=Tryz.func107.trans (congrArg some (by kernel_rfl))
 f46:=⟨Tryz.f122.name,by decide,Tryz.func122.trans (congrArg some (by kernel_rfl))⟩
 f47:=Tryz.func118.trans (congrArg some (by kernel_rfl))
 f48:=Tryz.func119.trans (congrArg some (by kernel_rfl))
 f49:=⟨Tryz.f123.name,by decide,Tryz.func123.trans (congrArg some (by kernel_rfl))⟩
 f50:=⟨Tryz.f124.name,by decide,Tryz.func124.trans (congrArg some (by kernel_rfl))⟩
 f57:=⟨Tryz.f126.name,by decide,Tryz.func126.trans (congrArg some (by kernel_rfl))⟩
 t0:=Tryz.underlying0
 a0:=Tryz.isAgg0
 z0:=Tryz.sizeOf0
 v0:=Tryz.zeroValue0
 t3:=Tryz.underlying3
 a3:=Tryz.isAgg3
 z3:=Tryz.sizeOf3
 v3:=Tryz.zeroValue3
 t4:=Tryz.underlying4
 a4:=Tryz.isAgg4
 z4:=Tryz.sizeOf4
 v4:=Tryz.zeroValue4
 t5:=Tryz.underlying5
 a5:=Tryz.isAgg5
 z5:=Tryz.sizeOf5
 v5:=Tryz.zeroValue5
 t9:=Tryz.underlying9
 a9:=Tryz.isAgg9
 z9:=Tryz.sizeOf9
 v9:=Tryz.zeroValue9
 t22:=Tryz.underlying89
 a22:=Tryz.isAgg89
 z22:=Tryz.sizeOf89
 v22:=Tryz.zeroValue89
 t25:=Tryz.underlying144
 a25:=Tryz.isAgg144
 z25:=Tryz.sizeOf144
 v25:=Tryz.zeroValue144
 t39:=Tryz.underlying153
 a39:=Tryz.isAgg153
 z39:=Tryz.sizeOf153
 v39:=Tryz.zeroValue153
 t45:=Tryz.underlying170
 a45:=Tryz.isAgg170
 z45:=Tryz.sizeOf170
 v45:=Tryz.zeroValue170
 t46:=Tryz.underlying171
 a46:=Tryz.isAgg171
 z46:=Tryz.sizeOf171
 v46:=Tryz.zeroValue171
 t50:=Tryz.underlying73
 a50:=Tryz.isAgg73
 z50:=Tryz.sizeOf73
 v50:=Tryz.zeroValue73
 t53:=Tryz.underlying122
 a53:=Tryz.isAgg122
 z53:=Tryz.sizeOf122
 v53:=Tryz.zeroValue122
 t55:=Tryz.underlying27
 a55:=Tryz.isAgg27
 z55:=Tryz.sizeOf27
 v55:=Tryz.zeroValue27
 t66:=Tryz.underlying186
 a66:=Tryz.isAgg186
 z66:=Tryz.sizeOf186
 v66:=Tryz.zeroValue186
 t70:=Tryz.underlying148
 a70:=Tryz.isAgg148
 z70:=Tryz.sizeOf148
 v70:=Tryz.zeroValue148
 t76:=Tryz.underlying193
 a76:=Tryz.isAgg193
 z76:=Tryz.sizeOf193
 v76:=Tryz.zeroValue193
 t77:=Tryz.underlying194
 a77:=Tryz.isAgg194
 z77:=Tryz.sizeOf194
 v77:=Tryz.zeroValue194}
end Go.Proofs
