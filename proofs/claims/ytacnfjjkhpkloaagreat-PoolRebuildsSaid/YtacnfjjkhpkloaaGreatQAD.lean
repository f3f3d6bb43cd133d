/- config.value at each index. No conditions. -/
import Derived.Test.YtacnfjjkhpkloaaGreatQAC
namespace Go.Proofs.YtacnfjjkhpkloaaGreat.Am
open Go Go.Proofs Go.RowKit Go.MapKept
set_option maxHeartbeats 4000000 in
set_option maxRecDepth 100000 in
theorem c4f (a0 a1 a2 a3 a4 a5:Int) (kp:Bool) (a7 a8 pr a10 a11:Int) (w:World):Calls Tryz.prog 85 #[.agg #[.int .i64 a0,.int .i64 a1,.int .i64 a2,.int .i64 a3,.int .i64 a4,.int .i64 a5,.bool kp,.int .i64 a7,.int .i64 a8,.int .u64 pr,.int .i64 a10,.int .i64 a11],.int .i64 0] w fun e w'=>
  e= .returned (.tuple #[.agg #[.int .u64 (a0y (some a0) 0 pr kp).1.1,.bool (a0y (some a0) 0 pr kp).1.2],.bool (a0y (some a0) 0 pr kp).2])/\w.grownBy w' none:=by
 have hidx:=b9L
 by_cases h1:a0 < -1
 ·go_enter Tryz.func85,Tryz.ntmps85
  go_wp2_with (first | (go_at_call 108;refine(C1 _ _).mono ?_;rintro e w1 ⟨rfl,hg1⟩;obtain⟨hA,hB⟩:=J3 hg1;have k0:=o8 hA 0 rfl;have k1:=o8 hB 0 rfl;have k2:=o8 hB 1 rfl;have k3:=B5 hB 0;have k4:=B5 hB 1;have k5:=o8 hA 6 rfl) | (go_at_call 107;refine(C7 _ _).mono ?_;rintro e w2 ⟨rfl,hg2⟩;have hg3:=hg1.trans hg2;obtain⟨hA2,hB2⟩:=J3 hg3;have m1:=o8 hB2 0 rfl;have m2:=o8 hB2 1 rfl;have m3:=B5 hB2 0;have m4:=B5 hB2 1))
  refine bodyPost_ret (G6 Tryz.results85 _ _ (w.heap.size + 1) 149 _ (0,0) _ rfl (Q5 hB) Tryz.underlying149 I3) rfl ?_
  have hv:a0y (some a0) 0 pr kp=((0,false),false):=if_pos h1
  rw [hv]
  exact⟨rfl,Q6 hg1 _ _⟩
 by_cases h2:a0= -1
 ·subst h2
  go_enter Tryz.func85,Tryz.ntmps85
  go_wp2_with (first | (go_at_call 108;refine(C1 _ _).mono ?_;rintro e w1 ⟨rfl,hg1⟩;obtain⟨hA,hB⟩:=J3 hg1;have k0:=o8 hA 0 rfl;have k1:=o8 hB 0 rfl;have k2:=o8 hB 1 rfl;have k3:=B5 hB 0;have k4:=B5 hB 1;have k5:=o8 hA 6 rfl) | (go_at_call 107;refine(C7 _ _).mono ?_;rintro e w2 ⟨rfl,hg2⟩;have hg3:=hg1.trans hg2;obtain⟨hA2,hB2⟩:=J3 hg3;have m1:=o8 hB2 0 rfl;have m2:=o8 hB2 1 rfl;have m3:=B5 hB2 0;have m4:=B5 hB2 1))
  refine bodyPost_ret (G6 Tryz.results85 _ _ (w.heap.size + 1) 149 _ (0,0) _ rfl (Q5 hB) Tryz.underlying149 I3) rfl ?_
  exact⟨rfl,Q6 hg1 _ _⟩
 ·go_enter Tryz.func85,Tryz.ntmps85
  go_wp2_with (first | (go_at_call 108;refine(C1 _ _).mono ?_;rintro e w1 ⟨rfl,hg1⟩;obtain⟨hA,hB⟩:=J3 hg1;have k0:=o8 hA 0 rfl;have k1:=o8 hB 0 rfl;have k2:=o8 hB 1 rfl;have k3:=B5 hB 0;have k4:=B5 hB 1;have k5:=o8 hA 6 rfl) | (go_at_call 107;refine(C7 _ _).mono ?_;rintro e w2 ⟨rfl,hg2⟩;have hg3:=hg1.trans hg2;obtain⟨hA2,hB2⟩:=J3 hg3;have m1:=o8 hB2 0 rfl;have m2:=o8 hB2 1 rfl;have m3:=B5 hB2 0;have m4:=B5 hB2 1))
  refine bodyPost_ret (G6 Tryz.results85 _ _ (w.heap.size + 1) 149 _ (0,0) _ rfl (Q5 hB2) Tryz.underlying149 I3) rfl ?_
  have hv:a0y (some a0) 0 pr kp=((a3P a0,false),true):=(if_neg (by omega)).trans (if_neg (by omega))
  rw [hv]
  exact⟨rfl,Q6 hg3 _ _⟩
set_option maxHeartbeats 4000000 in
set_option maxRecDepth 100000 in
theorem c4g (a0 a1 a2 a3 a4 a5:Int) (kp:Bool) (a7 a8 pr a10 a11:Int) (w:World):Calls Tryz.prog 85 #[.agg #[.int .i64 a0,.int .i64 a1,.int .i64 a2,.int .i64 a3,.int .i64 a4,.int .i64 a5,.bool kp,.int .i64 a7,.int .i64 a8,.int .u64 pr,.int .i64 a10,.int .i64 a11],.int .i64 1] w fun e w'=>
  e= .returned (.tuple #[.agg #[.int .u64 (a0y (some a1) 1 pr kp).1.1,.bool (a0y (some a1) 1 pr kp).1.2],.bool (a0y (some a1) 1 pr kp).2])/\w.grownBy w' none:=by
 have hidx:=b9M
 by_cases h1:a1 < -1
 ·go_enter Tryz.func85,Tryz.ntmps85
  go_wp2_with (first | (go_at_call 108;refine(C1 _ _).mono ?_;rintro e w1 ⟨rfl,hg1⟩;obtain⟨hA,hB⟩:=J3 hg1;have k0:=o8 hA 1 rfl;have k1:=o8 hB 0 rfl;have k2:=o8 hB 1 rfl;have k3:=B5 hB 0;have k4:=B5 hB 1;have k5:=o8 hA 6 rfl) | (go_at_call 107;refine(C7 _ _).mono ?_;rintro e w2 ⟨rfl,hg2⟩;have hg3:=hg1.trans hg2;obtain⟨hA2,hB2⟩:=J3 hg3;have m1:=o8 hB2 0 rfl;have m2:=o8 hB2 1 rfl;have m3:=B5 hB2 0;have m4:=B5 hB2 1))
  refine bodyPost_ret (G6 Tryz.results85 _ _ (w.heap.size + 1) 149 _ (0,0) _ rfl (Q5 hB) Tryz.underlying149 I3) rfl ?_
  have hv:a0y (some a1) 1 pr kp=((0,false),false):=if_pos h1
  rw [hv]
  exact⟨rfl,Q6 hg1 _ _⟩
 by_cases h2:a1= -1
 ·subst h2
  go_enter Tryz.func85,Tryz.ntmps85
  go_wp2_with (first | (go_at_call 108;refine(C1 _ _).mono ?_;rintro e w1 ⟨rfl,hg1⟩;obtain⟨hA,hB⟩:=J3 hg1;have k0:=o8 hA 1 rfl;have k1:=o8 hB 0 rfl;have k2:=o8 hB 1 rfl;have k3:=B5 hB 0;have k4:=B5 hB 1;have k5:=o8 hA 6 rfl) | (go_at_call 107;refine(C7 _ _).mono ?_;rintro e w2 ⟨rfl,hg2⟩;have hg3:=hg1.trans hg2;obtain⟨hA2,hB2⟩:=J3 hg3;have m1:=o8 hB2 0 rfl;have m2:=o8 hB2 1 rfl;have m3:=B5 hB2 0;have m4:=B5 hB2 1))
  refine bodyPost_ret (G6 Tryz.results85 _ _ (w.heap.size + 1) 149 _ (0,0) _ rfl (Q5 hB) Tryz.underlying149 I3) rfl ?_
  exact⟨rfl,Q6 hg1 _ _⟩
 ·go_enter Tryz.func85,Tryz.ntmps85
  go_wp2_with (first | (go_at_call 108;refine(C1 _ _).mono ?_;rintro e w1 ⟨rfl,hg1⟩;obtain⟨hA,hB⟩:=J3 hg1;have k0:=o8 hA 1 rfl;have k1:=o8 hB 0 rfl;have k2:=o8 hB 1 rfl;have k3:=B5 hB 0;have k4:=B5 hB 1;have k5:=o8 hA 6 rfl) | (go_at_call 107;refine(C7 _ _).mono ?_;rintro e w2 ⟨rfl,hg2⟩;have hg3:=hg1.trans hg2;obtain⟨hA2,hB2⟩:=J3 hg3;have m1:=o8 hB2 0 rfl;have m2:=o8 hB2 1 rfl;have m3:=B5 hB2 0;have m4:=B5 hB2 1))
  refine bodyPost_ret (G6 Tryz.results85 _ _ (w.heap.size + 1) 149 _ (0,0) _ rfl (Q5 hB2) Tryz.underlying149 I3) rfl ?_
  have hv:a0y (some a1) 1 pr kp=((a3P a1,false),true):=(if_neg (by omega)).trans (if_neg (by omega))
  rw [hv]
  exact⟨rfl,Q6 hg3 _ _⟩
set_option maxHeartbeats 4000000 in
set_option maxRecDepth 100000 in
theorem c4h (a0 a1 a2 a3 a4 a5:Int) (kp:Bool) (a7 a8 pr a10 a11:Int) (w:World):Calls Tryz.prog 85 #[.agg #[.int .i64 a0,.int .i64 a1,.int .i64 a2,.int .i64 a3,.int .i64 a4,.int .i64 a5,.bool kp,.int .i64 a7,.int .i64 a8,.int .u64 pr,.int .i64 a10,.int .i64 a11],.int .i64 2] w fun e w'=>
  e= .returned (.tuple #[.agg #[.int .u64 (a0y (some a2) 2 pr kp).1.1,.bool (a0y (some a2) 2 pr kp).1.2],.bool (a0y (some a2) 2 pr kp).2])/\w.grownBy w' none:=by
 have hidx:=b9N
 by_cases h1:a2 < -1
 ·go_enter Tryz.func85,Tryz.ntmps85
  go_wp2_with (first | (go_at_call 108;refine(C1 _ _).mono ?_;rintro e w1 ⟨rfl,hg1⟩;obtain⟨hA,hB⟩:=J3 hg1;have k0:=o8 hA 2 rfl;have k1:=o8 hB 0 rfl;have k2:=o8 hB 1 rfl;have k3:=B5 hB 0;have k4:=B5 hB 1;have k5:=o8 hA 6 rfl) | (go_at_call 107;refine(C7 _ _).mono ?_;rintro e w2 ⟨rfl,hg2⟩;have hg3:=hg1.trans hg2;obtain⟨hA2,hB2⟩:=J3 hg3;have m1:=o8 hB2 0 rfl;have m2:=o8 hB2 1 rfl;have m3:=B5 hB2 0;have m4:=B5 hB2 1))
  refine bodyPost_ret (G6 Tryz.results85 _ _ (w.heap.size + 1) 149 _ (0,0) _ rfl (Q5 hB) Tryz.underlying149 I3) rfl ?_
  have hv:a0y (some a2) 2 pr kp=((0,false),false):=if_pos h1
  rw [hv]
  exact⟨rfl,Q6 hg1 _ _⟩
 by_cases h2:a2= -1
 ·subst h2
  go_enter Tryz.func85,Tryz.ntmps85
  go_wp2_with (first | (go_at_call 108;refine(C1 _ _).mono ?_;rintro e w1 ⟨rfl,hg1⟩;obtain⟨hA,hB⟩:=J3 hg1;have k0:=o8 hA 2 rfl;have k1:=o8 hB 0 rfl;have k2:=o8 hB 1 rfl;have k3:=B5 hB 0;have k4:=B5 hB 1;have k5:=o8 hA 6 rfl) | (go_at_call 107;refine(C7 _ _).mono ?_;rintro e w2 ⟨rfl,hg2⟩;have hg3:=hg1.trans hg2;obtain⟨hA2,hB2⟩:=J3 hg3;have m1:=o8 hB2 0 rfl;have m2:=o8 hB2 1 rfl;have m3:=B5 hB2 0;have m4:=B5 hB2 1))
  refine bodyPost_ret (G6 Tryz.results85 _ _ (w.heap.size + 1) 149 _ (0,0) _ rfl (Q5 hB) Tryz.underlying149 I3) rfl ?_
  exact⟨rfl,Q6 hg1 _ _⟩
 ·go_enter Tryz.func85,Tryz.ntmps85
  go_wp2_with (first | (go_at_call 108;refine(C1 _ _).mono ?_;rintro e w1 ⟨rfl,hg1⟩;obtain⟨hA,hB⟩:=J3 hg1;have k0:=o8 hA 2 rfl;have k1:=o8 hB 0 rfl;have k2:=o8 hB 1 rfl;have k3:=B5 hB 0;have k4:=B5 hB 1;have k5:=o8 hA 6 rfl) | (go_at_call 107;refine(C7 _ _).mono ?_;rintro e w2 ⟨rfl,hg2⟩;have hg3:=hg1.trans hg2;obtain⟨hA2,hB2⟩:=J3 hg3;have m1:=o8 hB2 0 rfl;have m2:=o8 hB2 1 rfl;have m3:=B5 hB2 0;have m4:=B5 hB2 1))
  refine bodyPost_ret (G6 Tryz.results85 _ _ (w.heap.size + 1) 149 _ (0,0) _ rfl (Q5 hB2) Tryz.underlying149 I3) rfl ?_
  have hv:a0y (some a2) 2 pr kp=((a3P a2,false),true):=(if_neg (by omega)).trans (if_neg (by omega))
  rw [hv]
  exact⟨rfl,Q6 hg3 _ _⟩
set_option maxHeartbeats 4000000 in
set_option maxRecDepth 100000 in
theorem c4i (a0 a1 a2 a3 a4 a5:Int) (kp:Bool) (a7 a8 pr a10 a11:Int) (w:World):Calls Tryz.prog 85 #[.agg #[.int .i64 a0,.int .i64 a1,.int .i64 a2,.int .i64 a3,.int .i64 a4,.int .i64 a5,.bool kp,.int .i64 a7,.int .i64 a8,.int .u64 pr,.int .i64 a10,.int .i64 a11],.int .i64 3] w fun e w'=>
  e= .returned (.tuple #[.agg #[.int .u64 (a0y (some a3) 3 pr kp).1.1,.bool (a0y (some a3) 3 pr kp).1.2],.bool (a0y (some a3) 3 pr kp).2])/\w.grownBy w' none:=by
 have hidx:=b9O
 by_cases h1:a3 < -1
 ·go_enter Tryz.func85,Tryz.ntmps85
  go_wp2_with (first | (go_at_call 108;refine(C1 _ _).mono ?_;rintro e w1 ⟨rfl,hg1⟩;obtain⟨hA,hB⟩:=J3 hg1;have k0:=o8 hA 3 rfl;have k1:=o8 hB 0 rfl;have k2:=o8 hB 1 rfl;have k3:=B5 hB 0;have k4:=B5 hB 1;have k5:=o8 hA 6 rfl) | (go_at_call 107;refine(C7 _ _).mono ?_;rintro e w2 ⟨rfl,hg2⟩;have hg3:=hg1.trans hg2;obtain⟨hA2,hB2⟩:=J3 hg3;have m1:=o8 hB2 0 rfl;have m2:=o8 hB2 1 rfl;have m3:=B5 hB2 0;have m4:=B5 hB2 1))
  refine bodyPost_ret (G6 Tryz.results85 _ _ (w.heap.size + 1) 149 _ (0,0) _ rfl (Q5 hB) Tryz.underlying149 I3) rfl ?_
  have hv:a0y (some a3) 3 pr kp=((0,false),false):=if_pos h1
  rw [hv]
  exact⟨rfl,Q6 hg1 _ _⟩
 by_cases h2:a3= -1
 ·subst h2
  go_enter Tryz.func85,Tryz.ntmps85
  go_wp2_with (first | (go_at_call 108;refine(C1 _ _).mono ?_;rintro e w1 ⟨rfl,hg1⟩;obtain⟨hA,hB⟩:=J3 hg1;have k0:=o8 hA 3 rfl;have k1:=o8 hB 0 rfl;have k2:=o8 hB 1 rfl;have k3:=B5 hB 0;have k4:=B5 hB 1;have k5:=o8 hA 6 rfl) | (go_at_call 107;refine(C7 _ _).mono ?_;rintro e w2 ⟨rfl,hg2⟩;have hg3:=hg1.trans hg2;obtain⟨hA2,hB2⟩:=J3 hg3;have m1:=o8 hB2 0 rfl;have m2:=o8 hB2 1 rfl;have m3:=B5 hB2 0;have m4:=B5 hB2 1))
  refine bodyPost_ret (G6 Tryz.results85 _ _ (w.heap.size + 1) 149 _ (0,0) _ rfl (Q5 hB) Tryz.underlying149 I3) rfl ?_
  exact⟨rfl,Q6 hg1 _ _⟩
 ·go_enter Tryz.func85,Tryz.ntmps85
  go_wp2_with (first | (go_at_call 108;refine(C1 _ _).mono ?_;rintro e w1 ⟨rfl,hg1⟩;obtain⟨hA,hB⟩:=J3 hg1;have k0:=o8 hA 3 rfl;have k1:=o8 hB 0 rfl;have k2:=o8 hB 1 rfl;have k3:=B5 hB 0;have k4:=B5 hB 1;have k5:=o8 hA 6 rfl) | (go_at_call 107;refine(C7 _ _).mono ?_;rintro e w2 ⟨rfl,hg2⟩;have hg3:=hg1.trans hg2;obtain⟨hA2,hB2⟩:=J3 hg3;have m1:=o8 hB2 0 rfl;have m2:=o8 hB2 1 rfl;have m3:=B5 hB2 0;have m4:=B5 hB2 1))
  refine bodyPost_ret (G6 Tryz.results85 _ _ (w.heap.size + 1) 149 _ (0,0) _ rfl (Q5 hB2) Tryz.underlying149 I3) rfl ?_
  have hv:a0y (some a3) 3 pr kp=((a3P a3,false),true):=(if_neg (by omega)).trans (if_neg (by omega))
  rw [hv]
  exact⟨rfl,Q6 hg3 _ _⟩
set_option maxHeartbeats 4000000 in
set_option maxRecDepth 100000 in
theorem c4j (a0 a1 a2 a3 a4 a5:Int) (kp:Bool) (a7 a8 pr a10 a11:Int) (w:World):Calls Tryz.prog 85 #[.agg #[.int .i64 a0,.int .i64 a1,.int .i64 a2,.int .i64 a3,.int .i64 a4,.int .i64 a5,.bool kp,.int .i64 a7,.int .i64 a8,.int .u64 pr,.int .i64 a10,.int .i64 a11],.int .i64 4] w fun e w'=>
  e= .returned (.tuple #[.agg #[.int .u64 (a0y (some a4) 4 pr kp).1.1,.bool (a0y (some a4) 4 pr kp).1.2],.bool (a0y (some a4) 4 pr kp).2])/\w.grownBy w' none:=by
 have hidx:=b9P
 by_cases h1:a4 < -1
 ·go_enter Tryz.func85,Tryz.ntmps85
  go_wp2_with (first | (go_at_call 108;refine(C1 _ _).mono ?_;rintro e w1 ⟨rfl,hg1⟩;obtain⟨hA,hB⟩:=J3 hg1;have k0:=o8 hA 4 rfl;have k1:=o8 hB 0 rfl;have k2:=o8 hB 1 rfl;have k3:=B5 hB 0;have k4:=B5 hB 1;have k5:=o8 hA 6 rfl) | (go_at_call 107;refine(C7 _ _).mono ?_;rintro e w2 ⟨rfl,hg2⟩;have hg3:=hg1.trans hg2;obtain⟨hA2,hB2⟩:=J3 hg3;have m1:=o8 hB2 0 rfl;have m2:=o8 hB2 1 rfl;have m3:=B5 hB2 0;have m4:=B5 hB2 1))
  refine bodyPost_ret (G6 Tryz.results85 _ _ (w.heap.size + 1) 149 _ (0,0) _ rfl (Q5 hB) Tryz.underlying149 I3) rfl ?_
  have hv:a0y (some a4) 4 pr kp=((0,false),false):=if_pos h1
  rw [hv]
  exact⟨rfl,Q6 hg1 _ _⟩
 by_cases h2:a4= -1
 ·subst h2
  go_enter Tryz.func85,Tryz.ntmps85
  go_wp2_with (first | (go_at_call 108;refine(C1 _ _).mono ?_;rintro e w1 ⟨rfl,hg1⟩;obtain⟨hA,hB⟩:=J3 hg1;have k0:=o8 hA 4 rfl;have k1:=o8 hB 0 rfl;have k2:=o8 hB 1 rfl;have k3:=B5 hB 0;have k4:=B5 hB 1;have k5:=o8 hA 6 rfl) | (go_at_call 107;refine(C7 _ _).mono ?_;rintro e w2 ⟨rfl,hg2⟩;have hg3:=hg1.trans hg2;obtain⟨hA2,hB2⟩:=J3 hg3;have m1:=o8 hB2 0 rfl;have m2:=o8 hB2 1 rfl;have m3:=B5 hB2 0;have m4:=B5 hB2 1))
  refine bodyPost_ret (G6 Tryz.results85 _ _ (w.heap.size + 1) 149 _ (0,0) _ rfl (Q5 hB) Tryz.underlying149 I3) rfl ?_
  exact⟨rfl,Q6 hg1 _ _⟩
 ·go_enter Tryz.func85,Tryz.ntmps85
  go_wp2_with (first | (go_at_call 108;refine(C1 _ _).mono ?_;rintro e w1 ⟨rfl,hg1⟩;obtain⟨hA,hB⟩:=J3 hg1;have k0:=o8 hA 4 rfl;have k1:=o8 hB 0 rfl;have k2:=o8 hB 1 rfl;have k3:=B5 hB 0;have k4:=B5 hB 1;have k5:=o8 hA 6 rfl) | (go_at_call 107;refine(C7 _ _).mono ?_;rintro e w2 ⟨rfl,hg2⟩;have hg3:=hg1.trans hg2;obtain⟨hA2,hB2⟩:=J3 hg3;have m1:=o8 hB2 0 rfl;have m2:=o8 hB2 1 rfl;have m3:=B5 hB2 0;have m4:=B5 hB2 1))
  refine bodyPost_ret (G6 Tryz.results85 _ _ (w.heap.size + 1) 149 _ (0,0) _ rfl (Q5 hB2) Tryz.underlying149 I3) rfl ?_
  have hv:a0y (some a4) 4 pr kp=((a3P a4,false),true):=(if_neg (by omega)).trans (if_neg (by omega))
  rw [hv]
  exact⟨rfl,Q6 hg3 _ _⟩
set_option maxHeartbeats 4000000 in
set_option maxRecDepth 100000 in
theorem c4k (a0 a1 a2 a3 a4 a5:Int) (kp:Bool) (a7 a8 pr a10 a11:Int) (w:World):Calls Tryz.prog 85 #[.agg #[.int .i64 a0,.int .i64 a1,.int .i64 a2,.int .i64 a3,.int .i64 a4,.int .i64 a5,.bool kp,.int .i64 a7,.int .i64 a8,.int .u64 pr,.int .i64 a10,.int .i64 a11],.int .i64 5] w fun e w'=>
  e= .returned (.tuple #[.agg #[.int .u64 (a0y (some a5) 5 pr kp).1.1,.bool (a0y (some a5) 5 pr kp).1.2],.bool (a0y (some a5) 5 pr kp).2])/\w.grownBy w' none:=by
 have hidx:=b9Q
 by_cases h1:a5 < -1
 ·go_enter Tryz.func85,Tryz.ntmps85
  go_wp2_with (first | (go_at_call 108;refine(C1 _ _).mono ?_;rintro e w1 ⟨rfl,hg1⟩;obtain⟨hA,hB⟩:=J3 hg1;have k0:=o8 hA 5 rfl;have k1:=o8 hB 0 rfl;have k2:=o8 hB 1 rfl;have k3:=B5 hB 0;have k4:=B5 hB 1;have k5:=o8 hA 6 rfl) | (go_at_call 107;refine(C7 _ _).mono ?_;rintro e w2 ⟨rfl,hg2⟩;have hg3:=hg1.trans hg2;obtain⟨hA2,hB2⟩:=J3 hg3;have m1:=o8 hB2 0 rfl;have m2:=o8 hB2 1 rfl;have m3:=B5 hB2 0;have m4:=B5 hB2 1))
  refine bodyPost_ret (G6 Tryz.results85 _ _ (w.heap.size + 1) 149 _ (0,0) _ rfl (Q5 hB) Tryz.underlying149 I3) rfl ?_
  have hv:a0y (some a5) 5 pr kp=((0,false),false):=if_pos h1
  rw [hv]
  exact⟨rfl,Q6 hg1 _ _⟩
 by_cases h2:a5= -1
 ·subst h2
  go_enter Tryz.func85,Tryz.ntmps85
  go_wp2_with (first | (go_at_call 108;refine(C1 _ _).mono ?_;rintro e w1 ⟨rfl,hg1⟩;obtain⟨hA,hB⟩:=J3 hg1;have k0:=o8 hA 5 rfl;have k1:=o8 hB 0 rfl;have k2:=o8 hB 1 rfl;have k3:=B5 hB 0;have k4:=B5 hB 1;have k5:=o8 hA 6 rfl) | (go_at_call 107;refine(C7 _ _).mono ?_;rintro e w2 ⟨rfl,hg2⟩;have hg3:=hg1.trans hg2;obtain⟨hA2,hB2⟩:=J3 hg3;have m1:=o8 hB2 0 rfl;have m2:=o8 hB2 1 rfl;have m3:=B5 hB2 0;have m4:=B5 hB2 1))
  refine bodyPost_ret (G6 Tryz.results85 _ _ (w.heap.size + 1) 149 _ (0,0) _ rfl (Q5 hB) Tryz.underlying149 I3) rfl ?_
  exact⟨rfl,Q6 hg1 _ _⟩
 ·go_enter Tryz.func85,Tryz.ntmps85
  go_wp2_with (first | (go_at_call 108;refine(C1 _ _).mono ?_;rintro e w1 ⟨rfl,hg1⟩;obtain⟨hA,hB⟩:=J3 hg1;have k0:=o8 hA 5 rfl;have k1:=o8 hB 0 rfl;have k2:=o8 hB 1 rfl;have k3:=B5 hB 0;have k4:=B5 hB 1;have k5:=o8 hA 6 rfl) | (go_at_call 107;refine(C7 _ _).mono ?_;rintro e w2 ⟨rfl,hg2⟩;have hg3:=hg1.trans hg2;obtain⟨hA2,hB2⟩:=J3 hg3;have m1:=o8 hB2 0 rfl;have m2:=o8 hB2 1 rfl;have m3:=B5 hB2 0;have m4:=B5 hB2 1))
  refine bodyPost_ret (G6 Tryz.results85 _ _ (w.heap.size + 1) 149 _ (0,0) _ rfl (Q5 hB2) Tryz.underlying149 I3) rfl ?_
  have hv:a0y (some a5) 5 pr kp=((a3P a5,false),true):=(if_neg (by omega)).trans (if_neg (by omega))
  rw [hv]
  exact⟨rfl,Q6 hg3 _ _⟩
set_option maxHeartbeats 4000000 in
set_option maxRecDepth 100000 in
theorem c4l (a0 a1 a2 a3 a4 a5:Int) (kp:Bool) (a7 a8 pr a10 a11:Int) (w:World):Calls Tryz.prog 85 #[.agg #[.int .i64 a0,.int .i64 a1,.int .i64 a2,.int .i64 a3,.int .i64 a4,.int .i64 a5,.bool kp,.int .i64 a7,.int .i64 a8,.int .u64 pr,.int .i64 a10,.int .i64 a11],.int .i64 6] w fun e w'=>
  e= .returned (.tuple #[.agg #[.int .u64 (a0y none 6 pr kp).1.1,.bool (a0y none 6 pr kp).1.2],.bool (a0y none 6 pr kp).2])/\w.grownBy w' none:=by
 have hidx:=b9R
 cases kp
 ·go_enter Tryz.func85,Tryz.ntmps85
  go_wp2_with (first | (go_at_call 108;refine(C1 _ _).mono ?_;rintro e w1 ⟨rfl,hg1⟩;obtain⟨hA,hB⟩:=J3 hg1;have k0:=o8 hA 6 rfl;have k1:=o8 hB 0 rfl;have k2:=o8 hB 1 rfl;have k3:=B5 hB 0;have k4:=B5 hB 1;have k5:=o8 hA 6 rfl) | (go_at_call 107;refine(C7 _ _).mono ?_;rintro e w2 ⟨rfl,hg2⟩;have hg3:=hg1.trans hg2;obtain⟨hA2,hB2⟩:=J3 hg3;have m1:=o8 hB2 0 rfl;have m2:=o8 hB2 1 rfl;have m3:=B5 hB2 0;have m4:=B5 hB2 1))
  refine bodyPost_ret (G6 Tryz.results85 _ _ (w.heap.size + 1) 149 _ (0,0) _ rfl (Q5 hB2) Tryz.underlying149 I3) rfl ?_
  exact⟨rfl,Q6 hg3 _ _⟩
 ·go_enter Tryz.func85,Tryz.ntmps85
  go_wp2_with (first | (go_at_call 108;refine(C1 _ _).mono ?_;rintro e w1 ⟨rfl,hg1⟩;obtain⟨hA,hB⟩:=J3 hg1;have k0:=o8 hA 6 rfl;have k1:=o8 hB 0 rfl;have k2:=o8 hB 1 rfl;have k3:=B5 hB 0;have k4:=B5 hB 1;have k5:=o8 hA 6 rfl) | (go_at_call 107;refine(C7 _ _).mono ?_;rintro e w2 ⟨rfl,hg2⟩;have hg3:=hg1.trans hg2;obtain⟨hA2,hB2⟩:=J3 hg3;have m1:=o8 hB2 0 rfl;have m2:=o8 hB2 1 rfl;have m3:=B5 hB2 0;have m4:=B5 hB2 1))
  refine bodyPost_ret (G6 Tryz.results85 _ _ (w.heap.size + 1) 149 _ (0,0) _ rfl (Q5 hB2) Tryz.underlying149 I3) rfl ?_
  exact⟨rfl,Q6 hg3 _ _⟩
set_option maxHeartbeats 4000000 in
set_option maxRecDepth 100000 in
theorem c4m (a0 a1 a2 a3 a4 a5:Int) (kp:Bool) (a7 a8 pr a10 a11:Int) (w:World):Calls Tryz.prog 85 #[.agg #[.int .i64 a0,.int .i64 a1,.int .i64 a2,.int .i64 a3,.int .i64 a4,.int .i64 a5,.bool kp,.int .i64 a7,.int .i64 a8,.int .u64 pr,.int .i64 a10,.int .i64 a11],.int .i64 7] w fun e w'=>
  e= .returned (.tuple #[.agg #[.int .u64 (a0y (some a7) 7 pr kp).1.1,.bool (a0y (some a7) 7 pr kp).1.2],.bool (a0y (some a7) 7 pr kp).2])/\w.grownBy w' none:=by
 have hidx:=b9S
 by_cases h1:a7 < -1
 ·go_enter Tryz.func85,Tryz.ntmps85
  go_wp2_with (first | (go_at_call 108;refine(C1 _ _).mono ?_;rintro e w1 ⟨rfl,hg1⟩;obtain⟨hA,hB⟩:=J3 hg1;have k0:=o8 hA 7 rfl;have k1:=o8 hB 0 rfl;have k2:=o8 hB 1 rfl;have k3:=B5 hB 0;have k4:=B5 hB 1;have k5:=o8 hA 6 rfl) | (go_at_call 107;refine(C7 _ _).mono ?_;rintro e w2 ⟨rfl,hg2⟩;have hg3:=hg1.trans hg2;obtain⟨hA2,hB2⟩:=J3 hg3;have m1:=o8 hB2 0 rfl;have m2:=o8 hB2 1 rfl;have m3:=B5 hB2 0;have m4:=B5 hB2 1))
  refine bodyPost_ret (G6 Tryz.results85 _ _ (w.heap.size + 1) 149 _ (0,0) _ rfl (Q5 hB) Tryz.underlying149 I3) rfl ?_
  have hv:a0y (some a7) 7 pr kp=((0,false),false):=if_pos h1
  rw [hv]
  exact⟨rfl,Q6 hg1 _ _⟩
 by_cases h2:a7= -1
 ·subst h2
  go_enter Tryz.func85,Tryz.ntmps85
  go_wp2_with (first | (go_at_call 108;refine(C1 _ _).mono ?_;rintro e w1 ⟨rfl,hg1⟩;obtain⟨hA,hB⟩:=J3 hg1;have k0:=o8 hA 7 rfl;have k1:=o8 hB 0 rfl;have k2:=o8 hB 1 rfl;have k3:=B5 hB 0;have k4:=B5 hB 1;have k5:=o8 hA 6 rfl) | (go_at_call 107;refine(C7 _ _).mono ?_;rintro e w2 ⟨rfl,hg2⟩;have hg3:=hg1.trans hg2;obtain⟨hA2,hB2⟩:=J3 hg3;have m1:=o8 hB2 0 rfl;have m2:=o8 hB2 1 rfl;have m3:=B5 hB2 0;have m4:=B5 hB2 1))
  refine bodyPost_ret (G6 Tryz.results85 _ _ (w.heap.size + 1) 149 _ (0,0) _ rfl (Q5 hB) Tryz.underlying149 I3) rfl ?_
  exact⟨rfl,Q6 hg1 _ _⟩
 ·go_enter Tryz.func85,Tryz.ntmps85
  go_wp2_with (first | (go_at_call 108;refine(C1 _ _).mono ?_;rintro e w1 ⟨rfl,hg1⟩;obtain⟨hA,hB⟩:=J3 hg1;have k0:=o8 hA 7 rfl;have k1:=o8 hB 0 rfl;have k2:=o8 hB 1 rfl;have k3:=B5 hB 0;have k4:=B5 hB 1;have k5:=o8 hA 6 rfl) | (go_at_call 107;refine(C7 _ _).mono ?_;rintro e w2 ⟨rfl,hg2⟩;have hg3:=hg1.trans hg2;obtain⟨hA2,hB2⟩:=J3 hg3;have m1:=o8 hB2 0 rfl;have m2:=o8 hB2 1 rfl;have m3:=B5 hB2 0;have m4:=B5 hB2 1))
  refine bodyPost_ret (G6 Tryz.results85 _ _ (w.heap.size + 1) 149 _ (0,0) _ rfl (Q5 hB2) Tryz.underlying149 I3) rfl ?_
  have hv:a0y (some a7) 7 pr kp=((a3P a7,false),true):=(if_neg (by omega)).trans (if_neg (by omega))
  rw [hv]
  exact⟨rfl,Q6 hg3 _ _⟩
set_option maxHeartbeats 4000000 in
set_option maxRecDepth 100000 in
theorem c4n (a0 a1 a2 a3 a4 a5:Int) (kp:Bool) (a7 a8 pr a10 a11:Int) (w:World):Calls Tryz.prog 85 #[.agg #[.int .i64 a0,.int .i64 a1,.int .i64 a2,.int .i64 a3,.int .i64 a4,.int .i64 a5,.bool kp,.int .i64 a7,.int .i64 a8,.int .u64 pr,.int .i64 a10,.int .i64 a11],.int .i64 8] w fun e w'=>
  e= .returned (.tuple #[.agg #[.int .u64 (a0y (some a8) 8 pr kp).1.1,.bool (a0y (some a8) 8 pr kp).1.2],.bool (a0y (some a8) 8 pr kp).2])/\w.grownBy w' none:=by
 have hidx:=b9T
 by_cases h1:a8 < -1
 ·go_enter Tryz.func85,Tryz.ntmps85
  go_wp2_with (first | (go_at_call 108;refine(C1 _ _).mono ?_;rintro e w1 ⟨rfl,hg1⟩;obtain⟨hA,hB⟩:=J3 hg1;have k0:=o8 hA 8 rfl;have k1:=o8 hB 0 rfl;have k2:=o8 hB 1 rfl;have k3:=B5 hB 0;have k4:=B5 hB 1;have k5:=o8 hA 6 rfl) | (go_at_call 107;refine(C7 _ _).mono ?_;rintro e w2 ⟨rfl,hg2⟩;have hg3:=hg1.trans hg2;obtain⟨hA2,hB2⟩:=J3 hg3;have m1:=o8 hB2 0 rfl;have m2:=o8 hB2 1 rfl;have m3:=B5 hB2 0;have m4:=B5 hB2 1))
  refine bodyPost_ret (G6 Tryz.results85 _ _ (w.heap.size + 1) 149 _ (0,0) _ rfl (Q5 hB) Tryz.underlying149 I3) rfl ?_
  have hv:a0y (some a8) 8 pr kp=((0,false),false):=if_pos h1
  rw [hv]
  exact⟨rfl,Q6 hg1 _ _⟩
 by_cases h2:a8= -1
 ·subst h2
  go_enter Tryz.func85,Tryz.ntmps85
  go_wp2_with (first | (go_at_call 108;refine(C1 _ _).mono ?_;rintro e w1 ⟨rfl,hg1⟩;obtain⟨hA,hB⟩:=J3 hg1;have k0:=o8 hA 8 rfl;have k1:=o8 hB 0 rfl;have k2:=o8 hB 1 rfl;have k3:=B5 hB 0;have k4:=B5 hB 1;have k5:=o8 hA 6 rfl) | (go_at_call 107;refine(C7 _ _).mono ?_;rintro e w2 ⟨rfl,hg2⟩;have hg3:=hg1.trans hg2;obtain⟨hA2,hB2⟩:=J3 hg3;have m1:=o8 hB2 0 rfl;have m2:=o8 hB2 1 rfl;have m3:=B5 hB2 0;have m4:=B5 hB2 1))
  refine bodyPost_ret (G6 Tryz.results85 _ _ (w.heap.size + 1) 149 _ (0,0) _ rfl (Q5 hB) Tryz.underlying149 I3) rfl ?_
  exact⟨rfl,Q6 hg1 _ _⟩
 ·go_enter Tryz.func85,Tryz.ntmps85
  go_wp2_with (first | (go_at_call 108;refine(C1 _ _).mono ?_;rintro e w1 ⟨rfl,hg1⟩;obtain⟨hA,hB⟩:=J3 hg1;have k0:=o8 hA 8 rfl;have k1:=o8 hB 0 rfl;have k2:=o8 hB 1 rfl;have k3:=B5 hB 0;have k4:=B5 hB 1;have k5:=o8 hA 6 rfl) | (go_at_call 107;refine(C7 _ _).mono ?_;rintro e w2 ⟨rfl,hg2⟩;have hg3:=hg1.trans hg2;obtain⟨hA2,hB2⟩:=J3 hg3;have m1:=o8 hB2 0 rfl;have m2:=o8 hB2 1 rfl;have m3:=B5 hB2 0;have m4:=B5 hB2 1))
  refine bodyPost_ret (G6 Tryz.results85 _ _ (w.heap.size + 1) 149 _ (0,0) _ rfl (Q5 hB2) Tryz.underlying149 I3) rfl ?_
  have hv:a0y (some a8) 8 pr kp=((a3P a8,false),true):=(if_neg (by omega)).trans (if_neg (by omega))
  rw [hv]
  exact⟨rfl,Q6 hg3 _ _⟩
set_option maxHeartbeats 4000000 in
set_option maxRecDepth 100000 in
theorem c4o (a0 a1 a2 a3 a4 a5:Int) (kp:Bool) (a7 a8 pr a10 a11:Int) (w:World):Calls Tryz.prog 85 #[.agg #[.int .i64 a0,.int .i64 a1,.int .i64 a2,.int .i64 a3,.int .i64 a4,.int .i64 a5,.bool kp,.int .i64 a7,.int .i64 a8,.int .u64 pr,.int .i64 a10,.int .i64 a11],.int .i64 9] w fun e w'=>
  e= .returned (.tuple #[.agg #[.int .u64 (a0y none 9 pr kp).1.1,.bool (a0y none 9 pr kp).1.2],.bool (a0y none 9 pr kp).2])/\w.grownBy w' none:=by
 have hidx:=b9U
 go_enter Tryz.func85,Tryz.ntmps85
 go_wp2_with (first | (go_at_call 108;refine(C1 _ _).mono ?_;rintro e w1 ⟨rfl,hg1⟩;obtain⟨hA,hB⟩:=J3 hg1;have k0:=o8 hA 9 rfl;have k1:=o8 hB 0 rfl;have k2:=o8 hB 1 rfl;have k3:=B5 hB 0;have k4:=B5 hB 1;have k6:=o8 hA 9 rfl;have k5:=o8 hA 6 rfl) | (go_at_call 107;refine(C7 _ _).mono ?_;rintro e w2 ⟨rfl,hg2⟩;have hg3:=hg1.trans hg2;obtain⟨hA2,hB2⟩:=J3 hg3;have m1:=o8 hB2 0 rfl;have m2:=o8 hB2 1 rfl;have m3:=B5 hB2 0;have m4:=B5 hB2 1))
 refine bodyPost_ret (G6 Tryz.results85 _ _ (w.heap.size + 1) 149 _ (0,0) _ rfl (Q5 hB) Tryz.underlying149 I3) rfl ?_
 exact⟨rfl,Q6 hg1 _ _⟩
set_option maxHeartbeats 4000000 in
set_option maxRecDepth 100000 in
theorem c2b (a0 a1 a2 a3 a4 a5:Int) (kp:Bool) (a7 a8 pr a10 a11:Int) (w:World):Calls Tryz.prog 85 #[.agg #[.int .i64 a0,.int .i64 a1,.int .i64 a2,.int .i64 a3,.int .i64 a4,.int .i64 a5,.bool kp,.int .i64 a7,.int .i64 a8,.int .u64 pr,.int .i64 a10,.int .i64 a11],.int .i64 10] w fun e w'=>
  e= .returned (.tuple #[.agg #[.int .u64 (a0y (some a10) 10 pr kp).1.1,.bool (a0y (some a10) 10 pr kp).1.2],.bool (a0y (some a10) 10 pr kp).2])/\w.grownBy w' none:=by
 have hidx:=b6m
 by_cases h1:a10 < -1
 ·go_enter Tryz.func85,Tryz.ntmps85
  go_wp2_with (first | (go_at_call 108;refine(C1 _ _).mono ?_;rintro e w1 ⟨rfl,hg1⟩;obtain⟨hA,hB⟩:=J3 hg1;have k0:=o8 hA 10 rfl;have k1:=o8 hB 0 rfl;have k2:=o8 hB 1 rfl;have k3:=B5 hB 0;have k4:=B5 hB 1;have k5:=o8 hA 6 rfl) | (go_at_call 107;refine(C7 _ _).mono ?_;rintro e w2 ⟨rfl,hg2⟩;have hg3:=hg1.trans hg2;obtain⟨hA2,hB2⟩:=J3 hg3;have m1:=o8 hB2 0 rfl;have m2:=o8 hB2 1 rfl;have m3:=B5 hB2 0;have m4:=B5 hB2 1))
  refine bodyPost_ret (G6 Tryz.results85 _ _ (w.heap.size + 1) 149 _ (0,0) _ rfl (Q5 hB) Tryz.underlying149 I3) rfl ?_
  have hv:a0y (some a10) 10 pr kp=((0,false),false):=if_pos h1
  rw [hv]
  exact⟨rfl,Q6 hg1 _ _⟩
 by_cases h2:a10= -1
 ·subst h2
  go_enter Tryz.func85,Tryz.ntmps85
  go_wp2_with (first | (go_at_call 108;refine(C1 _ _).mono ?_;rintro e w1 ⟨rfl,hg1⟩;obtain⟨hA,hB⟩:=J3 hg1;have k0:=o8 hA 10 rfl;have k1:=o8 hB 0 rfl;have k2:=o8 hB 1 rfl;have k3:=B5 hB 0;have k4:=B5 hB 1;have k5:=o8 hA 6 rfl) | (go_at_call 107;refine(C7 _ _).mono ?_;rintro e w2 ⟨rfl,hg2⟩;have hg3:=hg1.trans hg2;obtain⟨hA2,hB2⟩:=J3 hg3;have m1:=o8 hB2 0 rfl;have m2:=o8 hB2 1 rfl;have m3:=B5 hB2 0;have m4:=B5 hB2 1))
  refine bodyPost_ret (G6 Tryz.results85 _ _ (w.heap.size + 1) 149 _ (0,0) _ rfl (Q5 hB) Tryz.underlying149 I3) rfl ?_
  exact⟨rfl,Q6 hg1 _ _⟩
 ·go_enter Tryz.func85,Tryz.ntmps85
  go_wp2_with (first | (go_at_call 108;refine(C1 _ _).mono ?_;rintro e w1 ⟨rfl,hg1⟩;obtain⟨hA,hB⟩:=J3 hg1;have k0:=o8 hA 10 rfl;have k1:=o8 hB 0 rfl;have k2:=o8 hB 1 rfl;have k3:=B5 hB 0;have k4:=B5 hB 1;have k5:=o8 hA 6 rfl) | (go_at_call 107;refine(C7 _ _).mono ?_;rintro e w2 ⟨rfl,hg2⟩;have hg3:=hg1.trans hg2;obtain⟨hA2,hB2⟩:=J3 hg3;have m1:=o8 hB2 0 rfl;have m2:=o8 hB2 1 rfl;have m3:=B5 hB2 0;have m4:=B5 hB2 1))
  refine bodyPost_ret (G6 Tryz.results85 _ _ (w.heap.size + 1) 149 _ (0,0) _ rfl (Q5 hB2) Tryz.underlying149 I3) rfl ?_
  have hv:a0y (some a10) 10 pr kp=((a3P a10,false),true):=(if_neg (by omega)).trans (if_neg (by omega))
  rw [hv]
  exact⟨rfl,Q6 hg3 _ _⟩
set_option maxHeartbeats 4000000 in
set_option maxRecDepth 100000 in
theorem c2c (a0 a1 a2 a3 a4 a5:Int) (kp:Bool) (a7 a8 pr a10 a11:Int) (w:World):Calls Tryz.prog 85 #[.agg #[.int .i64 a0,.int .i64 a1,.int .i64 a2,.int .i64 a3,.int .i64 a4,.int .i64 a5,.bool kp,.int .i64 a7,.int .i64 a8,.int .u64 pr,.int .i64 a10,.int .i64 a11],.int .i64 11] w fun e w'=>
  e= .returned (.tuple #[.agg #[.int .u64 (a0y (some a11) 11 pr kp).1.1,.bool (a0y (some a11) 11 pr kp).1.2],.bool (a0y (some a11) 11 pr kp).2])/\w.grownBy w' none:=by
 have hidx:=b6n
 by_cases h1:a11 < -1
 ·go_enter Tryz.func85,Tryz.ntmps85
  go_wp2_with (first | (go_at_call 108;refine(C1 _ _).mono ?_;rintro e w1 ⟨rfl,hg1⟩;obtain⟨hA,hB⟩:=J3 hg1;have k0:=o8 hA 11 rfl;have k1:=o8 hB 0 rfl;have k2:=o8 hB 1 rfl;have k3:=B5 hB 0;have k4:=B5 hB 1;have k5:=o8 hA 6 rfl) | (go_at_call 107;refine(C7 _ _).mono ?_;rintro e w2 ⟨rfl,hg2⟩;have hg3:=hg1.trans hg2;obtain⟨hA2,hB2⟩:=J3 hg3;have m1:=o8 hB2 0 rfl;have m2:=o8 hB2 1 rfl;have m3:=B5 hB2 0;have m4:=B5 hB2 1))
  refine bodyPost_ret (G6 Tryz.results85 _ _ (w.heap.size + 1) 149 _ (0,0) _ rfl (Q5 hB) Tryz.underlying149 I3) rfl ?_
  have hv:a0y (some a11) 11 pr kp=((0,false),false):=if_pos h1
  rw [hv]
  exact⟨rfl,Q6 hg1 _ _⟩
 by_cases h2:a11= -1
 ·subst h2
  go_enter Tryz.func85,Tryz.ntmps85
  go_wp2_with (first | (go_at_call 108;refine(C1 _ _).mono ?_;rintro e w1 ⟨rfl,hg1⟩;obtain⟨hA,hB⟩:=J3 hg1;have k0:=o8 hA 11 rfl;have k1:=o8 hB 0 rfl;have k2:=o8 hB 1 rfl;have k3:=B5 hB 0;have k4:=B5 hB 1;have k5:=o8 hA 6 rfl) | (go_at_call 107;refine(C7 _ _).mono ?_;rintro e w2 ⟨rfl,hg2⟩;have hg3:=hg1.trans hg2;obtain⟨hA2,hB2⟩:=J3 hg3;have m1:=o8 hB2 0 rfl;have m2:=o8 hB2 1 rfl;have m3:=B5 hB2 0;have m4:=B5 hB2 1))
  refine bodyPost_ret (G6 Tryz.results85 _ _ (w.heap.size + 1) 149 _ (0,0) _ rfl (Q5 hB) Tryz.underlying149 I3) rfl ?_
  exact⟨rfl,Q6 hg1 _ _⟩
 ·go_enter Tryz.func85,Tryz.ntmps85
  go_wp2_with (first | (go_at_call 108;refine(C1 _ _).mono ?_;rintro e w1 ⟨rfl,hg1⟩;obtain⟨hA,hB⟩:=J3 hg1;have k0:=o8 hA 11 rfl;have k1:=o8 hB 0 rfl;have k2:=o8 hB 1 rfl;have k3:=B5 hB 0;have k4:=B5 hB 1;have k5:=o8 hA 6 rfl) | (go_at_call 107;refine(C7 _ _).mono ?_;rintro e w2 ⟨rfl,hg2⟩;have hg3:=hg1.trans hg2;obtain⟨hA2,hB2⟩:=J3 hg3;have m1:=o8 hB2 0 rfl;have m2:=o8 hB2 1 rfl;have m3:=B5 hB2 0;have m4:=B5 hB2 1))
  refine bodyPost_ret (G6 Tryz.results85 _ _ (w.heap.size + 1) 149 _ (0,0) _ rfl (Q5 hB2) Tryz.underlying149 I3) rfl ?_
  have hv:a0y (some a11) 11 pr kp=((a3P a11,false),true):=(if_neg (by omega)).trans (if_neg (by omega))
  rw [hv]
  exact⟨rfl,Q6 hg3 _ _⟩
end Go.Proofs.YtacnfjjkhpkloaaGreat.Am
