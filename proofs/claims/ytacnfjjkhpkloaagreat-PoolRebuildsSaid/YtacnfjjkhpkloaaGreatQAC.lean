/- config.ints, value, set: pointers to a configuration's fields. No conditions. -/
import Derived.Test.YtacnfjjkhpkloaaGreatKD
import Derived.Test.YtacnfjjkhpkloaaGreatProg
import Derived.Test.YtacnfjjkhpkloaaGreatQAA
import Derived.Deep.RegionHeld3
import Derived.Lib.Hide
namespace Go.Proofs.YtacnfjjkhpkloaaGreat.Am
open Go Go.Proofs Go.RowKit Go.MapKept
theorem c2a:(Tryz.prog.info? 182).map (·.size)=some 12:=by kernel_rfl
set_option maxHeartbeats 4000000 in
set_option maxRecDepth 100000 in
theorem C1 (b:Nat) (w:World):Calls Tryz.prog 108 #[.pointer (some ⟨b,0,none⟩)] w fun e w'=>e= .returned (.agg #[.pointer (some ⟨b,0,none⟩),.pointer (some ⟨b,1,none⟩),.pointer (some ⟨b,2,none⟩),.pointer (some ⟨b,3,none⟩),.pointer (some ⟨b,4,none⟩),.pointer (some ⟨b,5,none⟩),.pointer none,.pointer (some ⟨b,7,none⟩),.pointer (some ⟨b,8,none⟩),.pointer none,.pointer (some ⟨b,10,none⟩),.pointer (some ⟨b,11,none⟩)])/\w.grownBy w' none:=by
 go_enter Tryz.func108,Tryz.ntmps108
 go_wp2
 go_region
 go_wp2
 refine bodyPost_ret (results_cell_row (P:=Tryz.prog) Tryz.results108 _ _ w.heap.size 182 _ (0,0) _ rfl (heap_alloc_new w _) Tryz.underlying182 rfl c2a) rfl ?_
 exact⟨rfl,⟨rfl,rfl,rfl,(H4 w _).size,(H4 w _).block⟩⟩
theorem I3:(Tryz.prog.info? 149).map (·.size)=some 2:=by kernel_rfl
set_option maxHeartbeats 4000000 in
set_option maxRecDepth 100000 in
theorem C7 (n:Int) (w:World):Calls Tryz.prog 107 #[.int .i64 n] w fun e w'=>e= .returned (.agg #[.int .u64 (a3P n),.bool false])/\w.grownBy w' none:=by
 go_enter Tryz.func107,Tryz.ntmps107
 go_wp2
 refine bodyPost_ret (results_cell_row (P:=Tryz.prog) Tryz.results107 _ _ w.heap.size 149 _ (0,0) _ rfl (heap_alloc_new w _) Tryz.underlying149 rfl I3) rfl ?_
 exact⟨rfl,⟨rfl,rfl,rfl,(H4 w _).size,(H4 w _).block⟩⟩
theorem J3 {w w1:World} {C D:Array Value} {t u:TypeId} (h:((w.alloc (.cells C t)).alloc (.cells D u)).grownBy w1 none):w1.heap[w.heap.size]?=some (.cells C t (0,0))/\w1.heap[w.heap.size + 1]?=some (.cells D u (0,0)):=by
 have hs:((w.alloc (.cells C t)).alloc (.cells D u)).heap.size=w.heap.size + 2:=by simp
 refine⟨(h.block _ (by omega) (by simp)).trans ?_,(h.block _ (by omega) (by simp)).trans ?_⟩
 ·rw [((H4 (w.alloc (.cells C t)) (.cells D u)).block w.heap.size (by simp) (by simp))]
  exact heap_alloc_new w _
 ·have:=heap_alloc_new (w.alloc (.cells C t)) (.cells D u)
  simpa using this
theorem o8 {w:World} {b:Nat} {C:Array Value} {t:TypeId} (h:w.heap[b]?=some (.cells C t (0,0))) (j:Nat) {v:Value} (hv:C[j]?=some v):w.cell? ⟨b,j,none⟩=some v:=by simp [World.cell?,h,hv]
theorem B5 {w:World} {b:Nat} {C:Array Value} {t:TypeId} (h:w.heap[b]?=some (.cells C t (0,0))) (j:Nat):w.frozen? ⟨b,j,none⟩=false:=by simp [World.frozen?,h]
theorem G6 {fn:Func} {p u:Tmp} {ty:TypeId} (h:fn.results= #[.cell p ty,.tmp u]) (tmps:Array Value) (w:World) (g:Nat) (t:TypeId) (cs:Array Value) (fr:Nat × Nat) (fs:Array Field)
  (hp:tmps.getD p undef= .pointer (some ⟨g,0,none⟩)) (hg:w.heap[g]?=some (.cells cs t fr))
  (hu:(Tryz.prog).underlying ty=some (.struct fs)) (hi:((Tryz.prog).info? ty).map (·.size)=some cs.size) :
  (results fn tmps).run Tryz.prog w= .ok (.tuple #[.agg cs,tmps.getD u undef]) w:=by
 rw [results_cell_tmp h,hp]
 simp [asAddr,run_loadVar_row w g t ty cs fr (.struct fs) hg hu rfl hi]
theorem Q5 {w:World} {b:Nat} {x y u v:Value} {ty:TypeId} (h:w.heap[b]?=some (.cells #[x,y] ty (0,0))):((w.setCell ⟨b,0,none⟩ u).setCell ⟨b,1,none⟩ v).heap[b]?=some (.cells #[u,v] ty (0,0)):=by
 simp [World.setCell,Array.getElem?_modify,h]
theorem Q6 {w w1:World} {C D:Array Value} {t u:TypeId} (h:((w.alloc (.cells C t)).alloc (.cells D u)).grownBy w1 none) (x y:Value):w.grownBy ((w1.setCell ⟨w.heap.size + 1,0,none⟩ x).setCell ⟨w.heap.size + 1,1,none⟩ y) none:=by
 have hs:((w.alloc (.cells C t)).alloc (.cells D u)).heap.size=w.heap.size + 2:=by simp
 have hsz:=h.size
 refine⟨h.os,h.tape,h.output,?_,fun k hk _=>?_⟩
 ·simp [World.setCell];omega
 ·have e:((w1.setCell ⟨w.heap.size + 1,0,none⟩ x).setCell ⟨w.heap.size + 1,1,none⟩ y).heap[k]?=w1.heap[k]?:=by
   simp only [World.setCell,Array.getElem?_modify]
   rw [if_neg (by omega),if_neg (by omega)]
  rw [e,h.block k (by omega) (by simp)]
  exact((H4 (w.alloc (.cells C t)) (.cells D u)).block k (by simp;omega) (by simp)).trans ((H4 w (.cells C t)).block k hk (by simp))
def a0y (p:Option Int) (i:Nat) (pr:Int) (kp:Bool):(Int × Bool) × Bool:=match p with
 | some x=>if x < -1 then((0,false),false) else if x= -1 then((0,true),true) else((a3P x,false),true)
 | none=>if i=9 then((pr,false),true) else if kp then((a3P 1,false),true) else((a3P 0,false),true)
theorem b9L (b:Nat) (W:World):(Instr.index 182 (.agg #[.pointer (some ⟨b,0,none⟩),.pointer (some ⟨b,1,none⟩),.pointer (some ⟨b,2,none⟩),.pointer (some ⟨b,3,none⟩),.pointer (some ⟨b,4,none⟩),.pointer (some ⟨b,5,none⟩),.pointer none,.pointer (some ⟨b,7,none⟩),.pointer (some ⟨b,8,none⟩),.pointer none,.pointer (some ⟨b,10,none⟩),.pointer (some ⟨b,11,none⟩)]) (.int .i64 0)).run Tryz.prog W= .ok (.pointer (some ⟨b,0,none⟩)) W:=by kernel_rfl
theorem b9M (b:Nat) (W:World):(Instr.index 182 (.agg #[.pointer (some ⟨b,0,none⟩),.pointer (some ⟨b,1,none⟩),.pointer (some ⟨b,2,none⟩),.pointer (some ⟨b,3,none⟩),.pointer (some ⟨b,4,none⟩),.pointer (some ⟨b,5,none⟩),.pointer none,.pointer (some ⟨b,7,none⟩),.pointer (some ⟨b,8,none⟩),.pointer none,.pointer (some ⟨b,10,none⟩),.pointer (some ⟨b,11,none⟩)]) (.int .i64 1)).run Tryz.prog W= .ok (.pointer (some ⟨b,1,none⟩)) W:=by kernel_rfl
theorem b9N (b:Nat) (W:World):(Instr.index 182 (.agg #[.pointer (some ⟨b,0,none⟩),.pointer (some ⟨b,1,none⟩),.pointer (some ⟨b,2,none⟩),.pointer (some ⟨b,3,none⟩),.pointer (some ⟨b,4,none⟩),.pointer (some ⟨b,5,none⟩),.pointer none,.pointer (some ⟨b,7,none⟩),.pointer (some ⟨b,8,none⟩),.pointer none,.pointer (some ⟨b,10,none⟩),.pointer (some ⟨b,11,none⟩)]) (.int .i64 2)).run Tryz.prog W= .ok (.pointer (some ⟨b,2,none⟩)) W:=by kernel_rfl
theorem b9O (b:Nat) (W:World):(Instr.index 182 (.agg #[.pointer (some ⟨b,0,none⟩),.pointer (some ⟨b,1,none⟩),.pointer (some ⟨b,2,none⟩),.pointer (some ⟨b,3,none⟩),.pointer (some ⟨b,4,none⟩),.pointer (some ⟨b,5,none⟩),.pointer none,.pointer (some ⟨b,7,none⟩),.pointer (some ⟨b,8,none⟩),.pointer none,.pointer (some ⟨b,10,none⟩),.pointer (some ⟨b,11,none⟩)]) (.int .i64 3)).run Tryz.prog W= .ok (.pointer (some ⟨b,3,none⟩)) W:=by kernel_rfl
theorem b9P (b:Nat) (W:World):(Instr.index 182 (.agg #[.pointer (some ⟨b,0,none⟩),.pointer (some ⟨b,1,none⟩),.pointer (some ⟨b,2,none⟩),.pointer (some ⟨b,3,none⟩),.pointer (some ⟨b,4,none⟩),.pointer (some ⟨b,5,none⟩),.pointer none,.pointer (some ⟨b,7,none⟩),.pointer (some ⟨b,8,none⟩),.pointer none,.pointer (some ⟨b,10,none⟩),.pointer (some ⟨b,11,none⟩)]) (.int .i64 4)).run Tryz.prog W= .ok (.pointer (some ⟨b,4,none⟩)) W:=by kernel_rfl
theorem b9Q (b:Nat) (W:World):(Instr.index 182 (.agg #[.pointer (some ⟨b,0,none⟩),.pointer (some ⟨b,1,none⟩),.pointer (some ⟨b,2,none⟩),.pointer (some ⟨b,3,none⟩),.pointer (some ⟨b,4,none⟩),.pointer (some ⟨b,5,none⟩),.pointer none,.pointer (some ⟨b,7,none⟩),.pointer (some ⟨b,8,none⟩),.pointer none,.pointer (some ⟨b,10,none⟩),.pointer (some ⟨b,11,none⟩)]) (.int .i64 5)).run Tryz.prog W= .ok (.pointer (some ⟨b,5,none⟩)) W:=by kernel_rfl
theorem b9R (b:Nat) (W:World):(Instr.index 182 (.agg #[.pointer (some ⟨b,0,none⟩),.pointer (some ⟨b,1,none⟩),.pointer (some ⟨b,2,none⟩),.pointer (some ⟨b,3,none⟩),.pointer (some ⟨b,4,none⟩),.pointer (some ⟨b,5,none⟩),.pointer none,.pointer (some ⟨b,7,none⟩),.pointer (some ⟨b,8,none⟩),.pointer none,.pointer (some ⟨b,10,none⟩),.pointer (some ⟨b,11,none⟩)]) (.int .i64 6)).run Tryz.prog W= .ok (.pointer none) W:=by kernel_rfl
theorem b9S (b:Nat) (W:World):(Instr.index 182 (.agg #[.pointer (some ⟨b,0,none⟩),.pointer (some ⟨b,1,none⟩),.pointer (some ⟨b,2,none⟩),.pointer (some ⟨b,3,none⟩),.pointer (some ⟨b,4,none⟩),.pointer (some ⟨b,5,none⟩),.pointer none,.pointer (some ⟨b,7,none⟩),.pointer (some ⟨b,8,none⟩),.pointer none,.pointer (some ⟨b,10,none⟩),.pointer (some ⟨b,11,none⟩)]) (.int .i64 7)).run Tryz.prog W= .ok (.pointer (some ⟨b,7,none⟩)) W:=by kernel_rfl
theorem b9T (b:Nat) (W:World):(Instr.index 182 (.agg #[.pointer (some ⟨b,0,none⟩),.pointer (some ⟨b,1,none⟩),.pointer (some ⟨b,2,none⟩),.pointer (some ⟨b,3,none⟩),.pointer (some ⟨b,4,none⟩),.pointer (some ⟨b,5,none⟩),.pointer none,.pointer (some ⟨b,7,none⟩),.pointer (some ⟨b,8,none⟩),.pointer none,.pointer (some ⟨b,10,none⟩),.pointer (some ⟨b,11,none⟩)]) (.int .i64 8)).run Tryz.prog W= .ok (.pointer (some ⟨b,8,none⟩)) W:=by kernel_rfl
theorem b9U (b:Nat) (W:World):(Instr.index 182 (.agg #[.pointer (some ⟨b,0,none⟩),.pointer (some ⟨b,1,none⟩),.pointer (some ⟨b,2,none⟩),.pointer (some ⟨b,3,none⟩),.pointer (some ⟨b,4,none⟩),.pointer (some ⟨b,5,none⟩),.pointer none,.pointer (some ⟨b,7,none⟩),.pointer (some ⟨b,8,none⟩),.pointer none,.pointer (some ⟨b,10,none⟩),.pointer (some ⟨b,11,none⟩)]) (.int .i64 9)).run Tryz.prog W= .ok (.pointer none) W:=by kernel_rfl
theorem b6m (b:Nat) (W:World):(Instr.index 182 (.agg #[.pointer (some ⟨b,0,none⟩),.pointer (some ⟨b,1,none⟩),.pointer (some ⟨b,2,none⟩),.pointer (some ⟨b,3,none⟩),.pointer (some ⟨b,4,none⟩),.pointer (some ⟨b,5,none⟩),.pointer none,.pointer (some ⟨b,7,none⟩),.pointer (some ⟨b,8,none⟩),.pointer none,.pointer (some ⟨b,10,none⟩),.pointer (some ⟨b,11,none⟩)]) (.int .i64 10)).run Tryz.prog W= .ok (.pointer (some ⟨b,10,none⟩)) W:=by kernel_rfl
theorem b6n (b:Nat) (W:World):(Instr.index 182 (.agg #[.pointer (some ⟨b,0,none⟩),.pointer (some ⟨b,1,none⟩),.pointer (some ⟨b,2,none⟩),.pointer (some ⟨b,3,none⟩),.pointer (some ⟨b,4,none⟩),.pointer (some ⟨b,5,none⟩),.pointer none,.pointer (some ⟨b,7,none⟩),.pointer (some ⟨b,8,none⟩),.pointer none,.pointer (some ⟨b,10,none⟩),.pointer (some ⟨b,11,none⟩)]) (.int .i64 11)).run Tryz.prog W= .ok (.pointer (some ⟨b,11,none⟩)) W:=by kernel_rfl
end Go.Proofs.YtacnfjjkhpkloaaGreat.Am
