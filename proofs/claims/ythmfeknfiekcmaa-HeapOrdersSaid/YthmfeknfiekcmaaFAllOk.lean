/- The functions compute it: by the typed machine. No conditions. -/
import Derived.Test.YthmfeknfiekcmaaFAll
import Derived.KernelRfl
namespace Go.Proofs.Ythmfeknfiekcmaa.Am
open Go
set_option maxRecDepth 100000
noncomputable def g_mempoollaw9_long : TFn := ⟨.cons (.c (.d (.sl (.sl (.int .i64))))) .nil, .nil, .cons (.c (.d .bool)) .nil, Bool, fun a => F_mempoollaw9_long a.1, fun r => ((), (r, ())), .none⟩
theorem ok_mempoollaw9_long : FnT Try.prog 30 g_mempoollaw9_long :=
  fnT (T := T) (TU := TU) (Γ := []) T_ok (by rfl) (ctx_nil) Try.func30 rfl rfl rfl rfl (fun x => x.2.1) (fun _ => rfl)
    (.two .leaf (.two .leaf (.two (.two .leaf (.one (.loop ⟨19, [(3, .one (.d (.int .i64))), (6, .one (.d (.sl (.sl (.int .i64))))), (7, .one (.d (.int .i64))), (8, .one (.d (.int .i64)))], [], []⟩ ⟨fun x => (x.1.1.1, x.1.2.1.1, x.1.2.2.1.1, x.1.2.2.2.1.1), fun v => (((v.1, ()), ((v.2.1, ()), ((v.2.2.1, ()), ((v.2.2.2, ()), ())))), (), ()), fun _ => rfl⟩ (fun v => F_mempoollaw9_long_l1 v.1 v.2.1 v.2.2.1 v.2.2.2) .leaf))) .leaf)))
    (⟨trivial, ⟨trivial, ⟨⟨trivial, ⟨trivial, fun v => by kernel_rfl⟩⟩, trivial⟩⟩⟩) (fun a => by kernel_rfl)

noncomputable def g_heap_New : TFn := ⟨.nil, .nil, .cons (.c (.box (.cons (.row U_api_Item 55) (.cons (.row (.pr (.int .i64) (.int .i64)) 4000004) .nil)))) .nil, List D_api_Item × (List (Int × Int)), fun _ => F_heap_New, fun r => ((), ((r.1, (r.2, ())), ())), .none⟩
theorem ok_heap_New : FnT Try.prog 35 g_heap_New :=
  fnT (T := T) (TU := TU) (Γ := []) T_ok (by rfl) (ctx_nil) Try.func35 rfl rfl rfl rfl (fun x => (x.2.1.1, x.2.1.2.1)) (fun _ => rfl)
    (.leaf)
    (trivial) (fun a => by kernel_rfl)

noncomputable def g_heap_Before : TFn := ⟨.cons (.agg (.cons (.d U_api_Item) .nil)) (.cons (.agg (.cons (.d U_api_Item) .nil)) .nil), .nil, .cons (.c (.d .bool)) .nil, Bool, fun a => F_heap_Before a.1.1 a.2.1.1, fun r => ((), (r, ())), .none⟩
theorem ok_heap_Before : FnT Try.prog 33 g_heap_Before :=
  fnT (T := T) (TU := TU) (Γ := []) T_ok (by rfl) (ctx_nil) Try.func33 rfl rfl rfl rfl (fun x => x.2.1) (fun _ => rfl)
    (.leaf)
    (trivial) (fun a => by kernel_rfl)

noncomputable def g_heap_Heap_swap : TFn := ⟨.cons (.bx (.cons (.row U_api_Item 55) (.cons (.row (.pr (.int .i64) (.int .i64)) 4000004) .nil))) (.cons (.c (.d (.int .i64))) (.cons (.c (.d (.int .i64))) .nil)), .cons (.cons (.row U_api_Item 55) (.cons (.row (.pr (.int .i64) (.int .i64)) 4000004) .nil)) .nil, .nil, List D_api_Item × (List (Int × Int)), fun a => F_heap_Heap_swap a.1.1 a.1.2.1 a.2.1 a.2.2.1, fun r => (((r.1, (r.2, ())), ()), ()), .none⟩
theorem ok_heap_Heap_swap : FnT Try.prog 72 g_heap_Heap_swap :=
  fnT (T := T) (TU := TU) (Γ := []) T_ok (by rfl) (ctx_nil) Try.func72 rfl rfl rfl rfl (fun x => (x.1.1.1, x.1.1.2.1)) (fun _ => rfl)
    (.leaf)
    (trivial) (fun a => by kernel_rfl)

noncomputable def g_heap_Heap_up : TFn := ⟨.cons (.bx (.cons (.row U_api_Item 55) (.cons (.row (.pr (.int .i64) (.int .i64)) 4000004) .nil))) (.cons (.c (.d (.int .i64))) .nil), .cons (.cons (.row U_api_Item 55) (.cons (.row (.pr (.int .i64) (.int .i64)) 4000004) .nil)) .nil, .nil, List D_api_Item × (List (Int × Int)), fun a => F_heap_Heap_up a.1.1 a.1.2.1 a.2.1, fun r => (((r.1, (r.2, ())), ()), ()), .none⟩
theorem ok_heap_Heap_up : FnT Try.prog 58 g_heap_Heap_up :=
  fnT (T := T) (TU := TU) (Γ := [(33, g_heap_Before), (72, g_heap_Heap_swap)]) T_ok (by rfl) (ctx_cons ok_heap_Before (ctx_cons ok_heap_Heap_swap ctx_nil)) Try.func58 rfl rfl rfl rfl (fun x => (x.1.1.1, x.1.1.2.1)) (fun _ => rfl)
    (.one (.loop ⟨34, [(0, .one (.ptr 1000000 0)), (1, .one (.d (.int .i64))), (34, .one (.ptr 1000000 0))], [(1000000, [.row 1000000, .row 1000001])], [(1000000, U_api_Item, 55, false), (1000001, (.pr (.int .i64) (.int .i64)), 4000004, false)]⟩ ⟨fun x => (x.1.2.1.1, x.2.2.1, x.2.2.2.1), fun v => (((), ((v.1, ()), ((), ()))), ((), ()), (v.2.1, (v.2.2, ()))), fun _ => rfl⟩ (fun v => F_heap_Heap_up_l1 v.1 v.2.1 v.2.2) .leaf))
    (⟨trivial, fun v => by kernel_rfl⟩) (fun a => by kernel_rfl)

noncomputable def g_heap_Heap_Push : TFn := ⟨.cons (.bx (.cons (.row U_api_Item 55) (.cons (.row (.pr (.int .i64) (.int .i64)) 4000004) .nil))) (.cons (.agg (.cons (.d U_api_Item) .nil)) .nil), .cons (.cons (.row U_api_Item 55) (.cons (.row (.pr (.int .i64) (.int .i64)) 4000004) .nil)) .nil, .cons (.c (.d .bool)) .nil, List D_api_Item × (List (Int × Int)) × Bool, fun a => F_heap_Heap_Push a.1.1 a.1.2.1 a.2.1.1, fun r => (((r.1, (r.2.1, ())), ()), (r.2.2, ())), .none⟩
theorem ok_heap_Heap_Push : FnT Try.prog 37 g_heap_Heap_Push :=
  fnT (T := T) (TU := TU) (Γ := [(58, g_heap_Heap_up)]) T_ok (by rfl) (ctx_cons ok_heap_Heap_up ctx_nil) Try.func37 rfl rfl rfl rfl (fun x => (x.1.1.1, x.1.1.2.1, x.2.1)) (fun _ => rfl)
    (.leaf)
    (trivial) (fun a => by kernel_rfl)

noncomputable def g_heap_Heap_Peek : TFn := ⟨.cons (.bx (.cons (.row U_api_Item 55) (.cons (.row (.pr (.int .i64) (.int .i64)) 4000004) .nil))) .nil, .cons (.cons (.row U_api_Item 55) (.cons (.row (.pr (.int .i64) (.int .i64)) 4000004) .nil)) .nil, .cons (.agg (.cons (.d U_api_Item) .nil)) (.cons (.c (.d .bool)) .nil), List D_api_Item × (List (Int × Int)) × D_api_Item × Bool, fun a => F_heap_Heap_Peek a.1.1 a.1.2.1, fun r => (((r.1, (r.2.1, ())), ()), ((r.2.2.1, ()), (r.2.2.2, ()))), .none⟩
theorem ok_heap_Heap_Peek : FnT Try.prog 41 g_heap_Heap_Peek :=
  fnT (T := T) (TU := TU) (Γ := []) T_ok (by rfl) (ctx_nil) Try.func41 rfl rfl rfl rfl (fun x => (x.1.1.1, x.1.1.2.1, x.2.1.1, x.2.2.1)) (fun _ => rfl)
    (.leaf)
    (trivial) (fun a => by kernel_rfl)

noncomputable def g_heap_Heap_down : TFn := ⟨.cons (.bx (.cons (.row U_api_Item 55) (.cons (.row (.pr (.int .i64) (.int .i64)) 4000004) .nil))) (.cons (.c (.d (.int .i64))) .nil), .cons (.cons (.row U_api_Item 55) (.cons (.row (.pr (.int .i64) (.int .i64)) 4000004) .nil)) .nil, .nil, List D_api_Item × (List (Int × Int)), fun a => F_heap_Heap_down a.1.1 a.1.2.1 a.2.1, fun r => (((r.1, (r.2, ())), ()), ()), .none⟩
theorem ok_heap_Heap_down : FnT Try.prog 73 g_heap_Heap_down :=
  fnT (T := T) (TU := TU) (Γ := [(33, g_heap_Before), (72, g_heap_Heap_swap)]) T_ok (by rfl) (ctx_cons ok_heap_Before (ctx_cons ok_heap_Heap_swap ctx_nil)) Try.func73 rfl rfl rfl rfl (fun x => (x.1.1.1, x.1.1.2.1)) (fun _ => rfl)
    (.one (.loop ⟨52, [(0, .one (.ptr 1000000 0)), (1, .one (.d (.int .i64))), (52, .one (.ptr 1000000 0))], [(1000000, [.row 1000000, .row 1000001])], [(1000000, U_api_Item, 55, false), (1000001, (.pr (.int .i64) (.int .i64)), 4000004, false)]⟩ ⟨fun x => (x.1.2.1.1, x.2.2.1, x.2.2.2.1), fun v => (((), ((v.1, ()), ((), ()))), ((), ()), (v.2.1, (v.2.2, ()))), fun _ => rfl⟩ (fun v => F_heap_Heap_down_l1 v.1 v.2.1 v.2.2) (.one (.two .leaf (.cut ⟨52, [(0, .one (.ptr 1000000 0)), (1, .one (.d (.int .i64))), (4, .one (.d (.int .i64))), (52, .one (.ptr 1000000 0))], [(1000000, [.row 1000000, .row 1000001])], [(1000000, U_api_Item, 55, false), (1000001, (.pr (.int .i64) (.int .i64)), 4000004, false)]⟩ ⟨fun x => (x.1.2.1.1, x.1.2.2.1.1, x.2.2.1, x.2.2.2.1), fun v => (((), ((v.1, ()), ((v.2.1, ()), ((), ())))), ((), ()), (v.2.2.1, (v.2.2.2, ()))), fun _ => rfl⟩ (fun v => F_heap_Heap_down_c2 v.1 v.2.1 v.2.2.1 v.2.2.2) (.two .leaf (.one (.loop ⟨52, [(0, .one (.ptr 1000000 0)), (1, .one (.d (.int .i64))), (4, .one (.d (.int .i64))), (14, .agg [.d (.int .i64), .d (.int .i64)]), (15, .one (.d (.int .i64))), (52, .one (.ptr 1000000 0))], [(1000000, [.row 1000000, .row 1000001])], [(1000000, U_api_Item, 55, false), (1000001, (.pr (.int .i64) (.int .i64)), 4000004, false)]⟩ ⟨fun x => (x.1.2.1.1, x.1.2.2.1.1, x.1.2.2.2.1.1, x.1.2.2.2.1.2.1, x.1.2.2.2.2.1.1, x.2.2.1, x.2.2.2.1), fun v => (((), ((v.1, ()), ((v.2.1, ()), ((v.2.2.1, (v.2.2.2.1, ())), ((v.2.2.2.2.1, ()), ((), ())))))), ((), ()), (v.2.2.2.2.2.1, (v.2.2.2.2.2.2, ()))), fun _ => rfl⟩ (fun v => F_heap_Heap_down_l3 v.1 v.2.1 v.2.2.1 v.2.2.2.1 v.2.2.2.2.1 v.2.2.2.2.2.1 v.2.2.2.2.2.2) .leaf))) .leaf)))))
    (⟨⟨trivial, ⟨⟨trivial, ⟨trivial, fun v => by kernel_rfl⟩⟩, trivial, fun v => by kernel_rfl⟩⟩, fun v => by kernel_rfl⟩) (fun a => by kernel_rfl)

noncomputable def g_heap_Heap_take : TFn := ⟨.cons (.bx (.cons (.row U_api_Item 55) (.cons (.row (.pr (.int .i64) (.int .i64)) 4000004) .nil))) (.cons (.c (.d (.int .i64))) .nil), .cons (.cons (.row U_api_Item 55) (.cons (.row (.pr (.int .i64) (.int .i64)) 4000004) .nil)) .nil, .nil, List D_api_Item × (List (Int × Int)), fun a => F_heap_Heap_take a.1.1 a.1.2.1 a.2.1, fun r => (((r.1, (r.2, ())), ()), ()), .none⟩
theorem ok_heap_Heap_take : FnT Try.prog 59 g_heap_Heap_take :=
  fnT (T := Tc) (TU := TU) (Γ := [(72, g_heap_Heap_swap), (58, g_heap_Heap_up), (73, g_heap_Heap_down)]) Tc_ok (by rfl) (ctx_cons ok_heap_Heap_swap (ctx_cons ok_heap_Heap_up (ctx_cons ok_heap_Heap_down ctx_nil))) Try.func59 rfl rfl rfl rfl (fun x => (x.1.1.1, x.1.1.2.1)) (fun _ => rfl)
    (.leaf)
    (trivial) (fun a => by kernel_rfl)

noncomputable def g_heap_Heap_Pop : TFn := ⟨.cons (.bx (.cons (.row U_api_Item 55) (.cons (.row (.pr (.int .i64) (.int .i64)) 4000004) .nil))) .nil, .cons (.cons (.row U_api_Item 55) (.cons (.row (.pr (.int .i64) (.int .i64)) 4000004) .nil)) .nil, .cons (.agg (.cons (.d U_api_Item) .nil)) (.cons (.c (.d .bool)) .nil), List D_api_Item × (List (Int × Int)) × D_api_Item × Bool, fun a => F_heap_Heap_Pop a.1.1 a.1.2.1, fun r => (((r.1, (r.2.1, ())), ()), ((r.2.2.1, ()), (r.2.2.2, ()))), .none⟩
theorem ok_heap_Heap_Pop : FnT Try.prog 38 g_heap_Heap_Pop :=
  fnT (T := T) (TU := TU) (Γ := [(41, g_heap_Heap_Peek), (59, g_heap_Heap_take)]) T_ok (by rfl) (ctx_cons ok_heap_Heap_Peek (ctx_cons ok_heap_Heap_take ctx_nil)) Try.func38 rfl rfl rfl rfl (fun x => (x.1.1.1, x.1.1.2.1, x.2.1.1, x.2.2.1)) (fun _ => rfl)
    (.leaf)
    (trivial) (fun a => by kernel_rfl)

noncomputable def g_heap_Heap_Len : TFn := ⟨.cons (.bx (.cons (.row U_api_Item 55) (.cons (.row (.pr (.int .i64) (.int .i64)) 4000004) .nil))) .nil, .cons (.cons (.row U_api_Item 55) (.cons (.row (.pr (.int .i64) (.int .i64)) 4000004) .nil)) .nil, .cons (.c (.d (.int .i64))) .nil, List D_api_Item × (List (Int × Int)) × Int, fun a => F_heap_Heap_Len a.1.1 a.1.2.1, fun r => (((r.1, (r.2.1, ())), ()), (r.2.2, ())), .none⟩
theorem ok_heap_Heap_Len : FnT Try.prog 42 g_heap_Heap_Len :=
  fnT (T := T) (TU := TU) (Γ := []) T_ok (by rfl) (ctx_nil) Try.func42 rfl rfl rfl rfl (fun x => (x.1.1.1, x.1.1.2.1, x.2.1)) (fun _ => rfl)
    (.leaf)
    (trivial) (fun a => by kernel_rfl)

noncomputable def g_heap_Heap_Remove : TFn := ⟨.cons (.bx (.cons (.row U_api_Item 55) (.cons (.row (.pr (.int .i64) (.int .i64)) 4000004) .nil))) (.cons (.c (.d (.int .i64))) .nil), .cons (.cons (.row U_api_Item 55) (.cons (.row (.pr (.int .i64) (.int .i64)) 4000004) .nil)) .nil, .cons (.c (.d .bool)) .nil, List D_api_Item × (List (Int × Int)) × Bool, fun a => F_heap_Heap_Remove a.1.1 a.1.2.1 a.2.1, fun r => (((r.1, (r.2.1, ())), ()), (r.2.2, ())), .none⟩
theorem ok_heap_Heap_Remove : FnT Try.prog 40 g_heap_Heap_Remove :=
  fnT (T := T) (TU := TU) (Γ := [(59, g_heap_Heap_take)]) T_ok (by rfl) (ctx_cons ok_heap_Heap_take ctx_nil) Try.func40 rfl rfl rfl rfl (fun x => (x.1.1.1, x.1.1.2.1, x.2.1)) (fun _ => rfl)
    (.leaf)
    (trivial) (fun a => by kernel_rfl)

def g_slices_Clone_api_Item_api_Item_own : TFn := gCloneX 24 U_api_Item 55
theorem ok_slices_Clone_api_Item_api_Item_own : FnT Try.prog 60 g_slices_Clone_api_Item_api_Item_own := fnT_cloneX (by kernel_rfl) (of_decide_eq_true (by kernel_rfl)) (fnT_clone (T := T) (TU := TU) T_ok (by rfl) Try.underlying61 Try.func60 rfl rfl (of_decide_eq_true (by kernel_rfl)) (by rfl) (by rfl) (by rfl) (by rfl) (by rfl) (by rfl) (by rfl) (by rfl) (by rfl) (by kernel_rfl) (fun l => by kernel_rfl))

def g_slices_SortFunc_api_Item_api_Item_of_heap_Heap_Sorted_1 : TFn := gSort U_api_Item 55 62 cfItem
theorem ok_slices_SortFunc_api_Item_api_Item_of_heap_Heap_Sorted_1 : FnT Try.prog 61 g_slices_SortFunc_api_Item_api_Item_of_heap_Heap_Sorted_1 := sort_items

noncomputable def g_heap_Heap_Sorted : TFn := ⟨.cons (.bx (.cons (.row U_api_Item 55) (.cons (.row (.pr (.int .i64) (.int .i64)) 4000004) .nil))) .nil, .cons (.cons (.row U_api_Item 55) (.cons (.row (.pr (.int .i64) (.int .i64)) 4000004) .nil)) .nil, .cons (.c (.row U_api_Item 55)) .nil, List D_api_Item × (List (Int × Int)) × List D_api_Item, fun a => F_heap_Heap_Sorted a.1.1 a.1.2.1, fun r => (((r.1, (r.2.1, ())), ()), (r.2.2, ())), .none⟩
theorem ok_heap_Heap_Sorted : FnT Try.prog 44 g_heap_Heap_Sorted :=
  fnT (T := T) (TU := TU) (Γ := [(60, g_slices_Clone_api_Item_api_Item_own), (61, g_slices_SortFunc_api_Item_api_Item_of_heap_Heap_Sorted_1)]) T_ok (by rfl) (ctx_cons ok_slices_Clone_api_Item_api_Item_own (ctx_cons ok_slices_SortFunc_api_Item_api_Item_of_heap_Heap_Sorted_1 ctx_nil)) Try.func44 rfl rfl rfl rfl (fun x => (x.1.1.1, x.1.1.2.1, x.2.1)) (fun _ => rfl)
    (.leaf)
    (trivial) (fun a => by kernel_rfl)

noncomputable def g_mempoollaw9_known : TFn := ⟨.nil, .nil, .cons (.c (.d .bool)) .nil, Bool, fun _ => F_mempoollaw9_known, fun r => ((), (r, ())), .none⟩
theorem ok_mempoollaw9_known : FnT Try.prog 31 g_mempoollaw9_known :=
  fnT (T := T) (TU := TU) (Γ := [(35, g_heap_New), (37, g_heap_Heap_Push), (38, g_heap_Heap_Pop), (41, g_heap_Heap_Peek), (42, g_heap_Heap_Len), (40, g_heap_Heap_Remove), (44, g_heap_Heap_Sorted)]) T_ok (by rfl) (ctx_cons ok_heap_New (ctx_cons ok_heap_Heap_Push (ctx_cons ok_heap_Heap_Pop (ctx_cons ok_heap_Heap_Peek (ctx_cons ok_heap_Heap_Len (ctx_cons ok_heap_Heap_Remove (ctx_cons ok_heap_Heap_Sorted ctx_nil))))))) Try.func31 rfl rfl rfl rfl (fun x => x.2.1) (fun _ => rfl)
    (.leaf)
    (trivial) (fun a => by kernel_rfl)

noncomputable def g_mempoolmake_From : TFn := ⟨.cons (.c (.d (.sl (.int .i64)))) .nil, .nil, .cons (.c (.box (.cons (.d U_mempoolmake_Numbers) .nil))) .nil, D_mempoolmake_Numbers, fun a => F_mempoolmake_From a.1, fun r => ((), ((r, ()), ())), .none⟩
theorem ok_mempoolmake_From : FnT Try.prog 15 g_mempoolmake_From :=
  fnT (T := T) (TU := TU) (Γ := []) T_ok (by rfl) (ctx_nil) Try.func15 rfl rfl rfl rfl (fun x => x.2.1.1) (fun _ => rfl)
    (.leaf)
    (trivial) (fun a => by kernel_rfl)

noncomputable def g_mempoolmake_Place : TFn := ⟨.cons (.c (.d (.int .i64))) (.cons (.c (.d (.int .i64))) .nil), .nil, .cons (.c (.d (.int .i64))) .nil, Int, fun a => F_mempoolmake_Place a.1 a.2.1, fun r => ((), (r, ())), .none⟩
theorem ok_mempoolmake_Place : FnT Try.prog 16 g_mempoolmake_Place :=
  fnT (T := T) (TU := TU) (Γ := []) T_ok (by rfl) (ctx_nil) Try.func16 rfl rfl rfl rfl (fun x => x.2.1) (fun _ => rfl)
    (.leaf)
    (trivial) (fun a => by kernel_rfl)

noncomputable def g_mempoolmake_Numbers_Next : TFn := ⟨.cons (.bx (.cons (.d U_mempoolmake_Numbers) .nil)) (.cons (.c (.d (.int .i64))) .nil), .cons (.cons (.d U_mempoolmake_Numbers) .nil) .nil, .cons (.c (.d (.int .i64))) .nil, D_mempoolmake_Numbers × Int, fun a => F_mempoolmake_Numbers_Next a.1.1 a.2.1, fun r => (((r.1, ()), ()), (r.2, ())), .none⟩
theorem ok_mempoolmake_Numbers_Next : FnT Try.prog 23 g_mempoolmake_Numbers_Next :=
  fnT (T := T) (TU := TU) (Γ := [(16, g_mempoolmake_Place)]) T_ok (by rfl) (ctx_cons ok_mempoolmake_Place ctx_nil) Try.func23 rfl rfl rfl rfl (fun x => (x.1.1.1, x.2.1)) (fun _ => rfl)
    (.two .leaf (.two .leaf (.cut ⟨36, [(0, .one (.ptr 1000000 0)), (1, .one (.d (.int .i64))), (5, .one (.d (.int .i64))), (36, .one (.ptr 1000000 0))], [(1000000, [.d U_mempoolmake_Numbers])], []⟩ ⟨fun x => (x.1.2.1.1, x.1.2.2.1.1, x.2.1.1.1), fun v => (((), ((v.1, ()), ((v.2.1, ()), ((), ())))), ((v.2.2, ()), ()), ()), fun _ => rfl⟩ (fun v => F_mempoolmake_Numbers_Next_c1 v.1 v.2.1 v.2.2) .leaf .leaf)))
    (⟨trivial, ⟨trivial, ⟨trivial, trivial, fun v => by kernel_rfl⟩⟩⟩) (fun a => by kernel_rfl)

noncomputable def g_mempoollaw9_item : TFn := ⟨.cons (.bx (.cons (.d U_mempoolmake_Numbers) .nil)) .nil, .cons (.cons (.d U_mempoolmake_Numbers) .nil) .nil, .cons (.agg (.cons (.d U_api_Item) .nil)) .nil, D_mempoolmake_Numbers × D_api_Item, fun a => F_mempoollaw9_item a.1.1, fun r => (((r.1, ()), ()), ((r.2, ()), ())), .none⟩
theorem ok_mempoollaw9_item : FnT Try.prog 32 g_mempoollaw9_item :=
  fnT (T := T) (TU := TU) (Γ := [(23, g_mempoolmake_Numbers_Next)]) T_ok (by rfl) (ctx_cons ok_mempoolmake_Numbers_Next ctx_nil) Try.func32 rfl rfl rfl rfl (fun x => (x.1.1.1, x.2.1.1)) (fun _ => rfl)
    (.leaf)
    (trivial) (fun a => by kernel_rfl)

noncomputable def g_mempoolref7_Before : TFn := ⟨.cons (.agg (.cons (.d U_api_Item) .nil)) (.cons (.agg (.cons (.d U_api_Item) .nil)) .nil), .nil, .cons (.c (.d .bool)) .nil, Bool, fun a => F_mempoolref7_Before a.1.1 a.2.1.1, fun r => ((), (r, ())), .none⟩
theorem ok_mempoolref7_Before : FnT Try.prog 34 g_mempoolref7_Before :=
  fnT (T := T) (TU := TU) (Γ := []) T_ok (by rfl) (ctx_nil) Try.func34 rfl rfl rfl rfl (fun x => x.2.1) (fun _ => rfl)
    (.leaf)
    (trivial) (fun a => by kernel_rfl)

noncomputable def g_mempoollaw9_HeapOrders : TFn := ⟨.cons (.agg (.cons (.d U_api_Item) .nil)) (.cons (.agg (.cons (.d U_api_Item) .nil)) (.cons (.agg (.cons (.d U_api_Item) .nil)) (.cons (.c (.d (.sl (.int .i64)))) .nil))), .nil, .cons (.c (.d .bool)) .nil, Bool, fun a => F_mempoollaw9_HeapOrders a.1.1 a.2.1.1 a.2.2.1.1 a.2.2.2.1, fun r => ((), (r, ())), .none⟩
theorem ok_mempoollaw9_HeapOrders : FnT Try.prog 7 g_mempoollaw9_HeapOrders :=
  fnT (T := T) (TU := TU) (Γ := [(30, g_mempoollaw9_long), (31, g_mempoollaw9_known), (15, g_mempoolmake_From), (32, g_mempoollaw9_item), (33, g_heap_Before), (34, g_mempoolref7_Before)]) T_ok (by rfl) (ctx_cons ok_mempoollaw9_long (ctx_cons ok_mempoollaw9_known (ctx_cons ok_mempoolmake_From (ctx_cons ok_mempoollaw9_item (ctx_cons ok_heap_Before (ctx_cons ok_mempoolref7_Before ctx_nil)))))) Try.func7 rfl rfl rfl rfl (fun x => x.2.1) (fun _ => rfl)
    (.two .leaf (.two .leaf (.two .leaf (.two (.two .leaf (.one (.loop ⟨91, [(32, .agg [.d (.arr 2 (.arr 3 U_api_Item))]), (33, .one (.d (.int .i64)))], [], []⟩ ⟨fun x => (x.1.1.1, x.1.2.1.1), fun v => (((v.1, ()), ((v.2, ()), ())), (), ()), fun _ => rfl⟩ (fun v => F_mempoollaw9_HeapOrders_l1 v.1 v.2) .leaf))) .leaf))))
    (⟨trivial, ⟨trivial, ⟨trivial, ⟨⟨trivial, ⟨trivial, fun v => by kernel_rfl⟩⟩, trivial⟩⟩⟩⟩) (fun a => by kernel_rfl)

noncomputable def g_mempoolref7_Insert : TFn := ⟨.cons (.c (.d (.sl U_api_Item))) (.cons (.agg (.cons (.d U_api_Item) .nil)) .nil), .nil, .cons (.c (.d (.sl U_api_Item))) (.cons (.c (.d .bool)) .nil), List D_api_Item × Bool, fun a => F_mempoolref7_Insert a.1 a.2.1.1, fun r => ((), (r.1, (r.2, ()))), .none⟩
theorem ok_mempoolref7_Insert : FnT Try.prog 36 g_mempoolref7_Insert :=
  fnT (T := T) (TU := TU) (Γ := [(34, g_mempoolref7_Before)]) T_ok (by rfl) (ctx_cons ok_mempoolref7_Before ctx_nil) Try.func36 rfl rfl rfl rfl (fun x => (x.2.1, x.2.2.1)) (fun _ => rfl)
    (.two .leaf (.two .leaf (.cut ⟨40, [(0, .one (.d (.sl U_api_Item))), (3, .one (.ptr 1000000 0)), (6, .one (.d (.int .i64)))], [(1000000, [.d U_api_Item])], []⟩ ⟨fun x => (x.1.1.1, x.1.2.2.1.1, x.2.1.1.1), fun v => (((v.1, ()), ((), ((v.2.1, ()), ()))), ((v.2.2, ()), ()), ()), fun _ => rfl⟩ (fun v => F_mempoolref7_Insert_c1 v.1 v.2.1 v.2.2) (.two .leaf (.one (.loop ⟨40, [(0, .one (.d (.sl U_api_Item))), (3, .one (.ptr 1000000 0)), (6, .one (.d (.int .i64))), (9, .one (.d (.sl U_api_Item))), (10, .one (.d (.int .i64))), (11, .one (.d (.int .i64)))], [(1000000, [.d U_api_Item])], []⟩ ⟨fun x => (x.1.1.1, x.1.2.2.1.1, x.1.2.2.2.1.1, x.1.2.2.2.2.1.1, x.1.2.2.2.2.2.1.1, x.2.1.1.1), fun v => (((v.1, ()), ((), ((v.2.1, ()), ((v.2.2.1, ()), ((v.2.2.2.1, ()), ((v.2.2.2.2.1, ()), ())))))), ((v.2.2.2.2.2, ()), ()), ()), fun _ => rfl⟩ (fun v => F_mempoolref7_Insert_l2 v.1 v.2.1 v.2.2.1 v.2.2.2.1 v.2.2.2.2.1 v.2.2.2.2.2) .leaf))) .leaf)))
    (⟨trivial, ⟨trivial, ⟨⟨trivial, ⟨trivial, fun v => by kernel_rfl⟩⟩, trivial, fun v => by kernel_rfl⟩⟩⟩) (fun a => by kernel_rfl)

noncomputable def g_mempoolref7_Take : TFn := ⟨.cons (.c (.d (.sl U_api_Item))) (.cons (.c (.d (.int .i64))) .nil), .nil, .cons (.c (.d (.sl U_api_Item))) (.cons (.c (.d .bool)) .nil), List D_api_Item × Bool, fun a => F_mempoolref7_Take a.1 a.2.1, fun r => ((), (r.1, (r.2, ()))), .none⟩
theorem ok_mempoolref7_Take : FnT Try.prog 39 g_mempoolref7_Take :=
  fnT (T := T) (TU := TU) (Γ := []) T_ok (by rfl) (ctx_nil) Try.func39 rfl rfl rfl rfl (fun x => (x.2.1, x.2.2.1)) (fun _ => rfl)
    (.two .leaf (.two (.two .leaf (.one (.loop ⟨31, [(0, .one (.d (.sl U_api_Item))), (1, .one (.d (.int .i64))), (8, .one (.d (.sl U_api_Item))), (9, .one (.d (.int .i64))), (10, .one (.d (.int .i64)))], [], []⟩ ⟨fun x => (x.1.1.1, x.1.2.1.1, x.1.2.2.1.1, x.1.2.2.2.1.1, x.1.2.2.2.2.1.1), fun v => (((v.1, ()), ((v.2.1, ()), ((v.2.2.1, ()), ((v.2.2.2.1, ()), ((v.2.2.2.2, ()), ()))))), (), ()), fun _ => rfl⟩ (fun v => F_mempoolref7_Take_l1 v.1 v.2.1 v.2.2.1 v.2.2.2.1 v.2.2.2.2) .leaf))) .leaf))
    (⟨trivial, ⟨⟨trivial, ⟨trivial, fun v => by kernel_rfl⟩⟩, trivial⟩⟩) (fun a => by kernel_rfl)

noncomputable def g_mempoolref7_SameItems : TFn := ⟨.cons (.c (.d (.sl U_api_Item))) (.cons (.c (.d (.sl U_api_Item))) .nil), .nil, .cons (.c (.d .bool)) .nil, Bool, fun a => F_mempoolref7_SameItems a.1 a.2.1, fun r => ((), (r, ())), .none⟩
theorem ok_mempoolref7_SameItems : FnT Try.prog 43 g_mempoolref7_SameItems :=
  fnT (T := T) (TU := TU) (Γ := []) T_ok (by rfl) (ctx_nil) Try.func43 rfl rfl rfl rfl (fun x => x.2.1) (fun _ => rfl)
    (.two .leaf (.two .leaf (.two (.two .leaf (.one (.loop ⟨26, [(0, .one (.d (.sl U_api_Item))), (1, .one (.d (.sl U_api_Item))), (12, .one (.d (.int .i64))), (13, .one (.d (.int .i64)))], [], []⟩ ⟨fun x => (x.1.1.1, x.1.2.1.1, x.1.2.2.1.1, x.1.2.2.2.1.1), fun v => (((v.1, ()), ((v.2.1, ()), ((v.2.2.1, ()), ((v.2.2.2, ()), ())))), (), ()), fun _ => rfl⟩ (fun v => F_mempoolref7_SameItems_l1 v.1 v.2.1 v.2.2.1 v.2.2.2) .leaf))) .leaf)))
    (⟨trivial, ⟨trivial, ⟨⟨trivial, ⟨trivial, fun v => by kernel_rfl⟩⟩, trivial⟩⟩⟩) (fun a => by kernel_rfl)

noncomputable def g_mempoollaw9_HeapPlays : TFn := ⟨.cons (.c (.d (.sl (.int .i64)))) (.cons (.c (.d (.sl U_api_Item))) .nil), .nil, .cons (.c (.d .bool)) .nil, Bool, fun a => F_mempoollaw9_HeapPlays a.1 a.2.1, fun r => ((), (r, ())), .none⟩
theorem ok_mempoollaw9_HeapPlays : FnT Try.prog 8 g_mempoollaw9_HeapPlays :=
  fnT (T := T) (TU := TU) (Γ := [(30, g_mempoollaw9_long), (31, g_mempoollaw9_known), (15, g_mempoolmake_From), (35, g_heap_New), (36, g_mempoolref7_Insert), (37, g_heap_Heap_Push), (32, g_mempoollaw9_item), (23, g_mempoolmake_Numbers_Next), (38, g_heap_Heap_Pop), (39, g_mempoolref7_Take), (40, g_heap_Heap_Remove), (41, g_heap_Heap_Peek), (42, g_heap_Heap_Len), (44, g_heap_Heap_Sorted), (43, g_mempoolref7_SameItems)]) T_ok (by rfl) (ctx_cons ok_mempoollaw9_long (ctx_cons ok_mempoollaw9_known (ctx_cons ok_mempoolmake_From (ctx_cons ok_heap_New (ctx_cons ok_mempoolref7_Insert (ctx_cons ok_heap_Heap_Push (ctx_cons ok_mempoollaw9_item (ctx_cons ok_mempoolmake_Numbers_Next (ctx_cons ok_heap_Heap_Pop (ctx_cons ok_mempoolref7_Take (ctx_cons ok_heap_Heap_Remove (ctx_cons ok_heap_Heap_Peek (ctx_cons ok_heap_Heap_Len (ctx_cons ok_heap_Heap_Sorted (ctx_cons ok_mempoolref7_SameItems ctx_nil))))))))))))))) Try.func8 rfl rfl rfl rfl (fun x => x.2.1) (fun _ => rfl)
    (.two .leaf (.two .leaf (.two .leaf (.two .leaf (.two .leaf (.two .leaf (.cut ⟨162, [(0, .one (.d (.sl (.int .i64)))), (5, .one (.ptr 1000000 0)), (6, .one (.ptr 1000001 0)), (7, .one (.d (.sl U_api_Item)))], [(1000000, [.d U_mempoolmake_Numbers]), (1000001, [.row 1000000, .row 1000001])], [(1000000, U_api_Item, 55, false), (1000001, (.pr (.int .i64) (.int .i64)), 4000004, false)]⟩ ⟨fun x => (x.1.1.1, x.1.2.2.2.1.1, x.2.1.1.1, x.2.2.1, x.2.2.2.1), fun v => (((v.1, ()), ((), ((), ((v.2.1, ()), ())))), ((v.2.2.1, ()), ((), ())), (v.2.2.2.1, (v.2.2.2.2, ()))), fun _ => rfl⟩ (fun v => F_mempoollaw9_HeapPlays_c1 v.1 v.2.1 v.2.2.1 v.2.2.2.1 v.2.2.2.2) (.two .leaf (.one (.loop ⟨162, [(0, .one (.d (.sl (.int .i64)))), (5, .one (.ptr 1000000 0)), (6, .one (.ptr 1000001 0)), (7, .one (.d (.sl U_api_Item))), (35, .one (.d (.sl U_api_Item))), (36, .one (.d (.int .i64))), (37, .one (.d (.int .i64)))], [(1000000, [.d U_mempoolmake_Numbers]), (1000001, [.row 1000000, .row 1000001])], [(1000000, U_api_Item, 55, false), (1000001, (.pr (.int .i64) (.int .i64)), 4000004, false)]⟩ ⟨fun x => (x.1.1.1, x.1.2.2.2.1.1, x.1.2.2.2.2.1.1, x.1.2.2.2.2.2.1.1, x.1.2.2.2.2.2.2.1.1, x.2.1.1.1, x.2.2.1, x.2.2.2.1), fun v => (((v.1, ()), ((), ((), ((v.2.1, ()), ((v.2.2.1, ()), ((v.2.2.2.1, ()), ((v.2.2.2.2.1, ()), ()))))))), ((v.2.2.2.2.2.1, ()), ((), ())), (v.2.2.2.2.2.2.1, (v.2.2.2.2.2.2.2, ()))), fun _ => rfl⟩ (fun v => F_mempoollaw9_HeapPlays_l4 v.1 v.2.1 v.2.2.1 v.2.2.2.1 v.2.2.2.2.1 v.2.2.2.2.2.1 v.2.2.2.2.2.2.1 v.2.2.2.2.2.2.2) .leaf))) (.two (.one (.loop ⟨162, [(0, .one (.d (.sl (.int .i64)))), (5, .one (.ptr 1000000 0)), (6, .one (.ptr 1000001 0)), (7, .one (.d (.sl U_api_Item)))], [(1000000, [.d U_mempoolmake_Numbers]), (1000001, [.row 1000000, .row 1000001])], [(1000000, U_api_Item, 55, false), (1000001, (.pr (.int .i64) (.int .i64)), 4000004, false)]⟩ ⟨fun x => (x.1.1.1, x.1.2.2.2.1.1, x.2.1.1.1, x.2.2.1, x.2.2.2.1), fun v => (((v.1, ()), ((), ((), ((v.2.1, ()), ())))), ((v.2.2.1, ()), ((), ())), (v.2.2.2.1, (v.2.2.2.2, ()))), fun _ => rfl⟩ (fun v => F_mempoollaw9_HeapPlays_l2 v.1 v.2.1 v.2.2.1 v.2.2.2.1 v.2.2.2.2) (.two .leaf (.one (.two .leaf (.cut ⟨162, [(0, .one (.d (.sl (.int .i64)))), (5, .one (.ptr 1000000 0)), (6, .one (.ptr 1000001 0)), (7, .one (.d (.sl U_api_Item)))], [(1000000, [.d U_mempoolmake_Numbers]), (1000001, [.row 1000000, .row 1000001])], [(1000000, U_api_Item, 55, false), (1000001, (.pr (.int .i64) (.int .i64)), 4000004, false)]⟩ ⟨fun x => (x.1.1.1, x.1.2.2.2.1.1, x.2.1.1.1, x.2.2.1, x.2.2.2.1), fun v => (((v.1, ()), ((), ((), ((v.2.1, ()), ())))), ((v.2.2.1, ()), ((), ())), (v.2.2.2.1, (v.2.2.2.2, ()))), fun _ => rfl⟩ (fun v => F_mempoollaw9_HeapPlays_c3 v.1 v.2.1 v.2.2.1 v.2.2.2.1 v.2.2.2.2) .leaf .leaf)))))) .leaf))))))))
    (⟨trivial, ⟨trivial, ⟨trivial, ⟨trivial, ⟨trivial, ⟨trivial, ⟨⟨trivial, ⟨trivial, fun v => by kernel_rfl⟩⟩, ⟨⟨⟨trivial, ⟨trivial, ⟨trivial, trivial, fun v => by kernel_rfl⟩⟩⟩, fun v => by kernel_rfl⟩, trivial⟩, fun v => by kernel_rfl⟩⟩⟩⟩⟩⟩⟩) (fun a => by kernel_rfl)

noncomputable def g_mempoollaw9_HeapSorts : TFn := ⟨.cons (.c (.d (.sl (.int .i64)))) (.cons (.c (.d (.sl (.int .i64)))) .nil), .nil, .cons (.c (.d .bool)) .nil, Bool, fun a => F_mempoollaw9_HeapSorts a.1 a.2.1, fun r => ((), (r, ())), .none⟩
theorem ok_mempoollaw9_HeapSorts : FnT Try.prog 9 g_mempoollaw9_HeapSorts :=
  fnT (T := T) (TU := TU) (Γ := [(30, g_mempoollaw9_long), (31, g_mempoollaw9_known), (15, g_mempoolmake_From), (23, g_mempoolmake_Numbers_Next), (35, g_heap_New), (37, g_heap_Heap_Push), (16, g_mempoolmake_Place), (44, g_heap_Heap_Sorted), (38, g_heap_Heap_Pop), (42, g_heap_Heap_Len)]) T_ok (by rfl) (ctx_cons ok_mempoollaw9_long (ctx_cons ok_mempoollaw9_known (ctx_cons ok_mempoolmake_From (ctx_cons ok_mempoolmake_Numbers_Next (ctx_cons ok_heap_New (ctx_cons ok_heap_Heap_Push (ctx_cons ok_mempoolmake_Place (ctx_cons ok_heap_Heap_Sorted (ctx_cons ok_heap_Heap_Pop (ctx_cons ok_heap_Heap_Len ctx_nil)))))))))) Try.func9 rfl rfl rfl rfl (fun x => x.2.1) (fun _ => rfl)
    (.two .leaf (.two .leaf (.two .leaf (.two .leaf (.cut ⟨154, [(1, .one (.d (.sl (.int .i64)))), (6, .one (.row 1000000))], [], [(1000000, U_api_Item, 55, true)]⟩ ⟨fun x => (x.1.1.1, x.2.2.1), fun v => (((v.1, ()), ((), ())), (), (v.2, ())), fun _ => rfl⟩ (fun v => F_mempoollaw9_HeapSorts_c1 v.1 v.2) (.two .leaf (.one (.loop ⟨154, [(0, .one (.d (.sl (.int .i64)))), (1, .one (.d (.sl (.int .i64)))), (5, .one (.ptr 1000000 0)), (6, .one (.row 1000000)), (7, .one (.d (.int .i64)))], [(1000000, [.d U_mempoolmake_Numbers])], [(1000000, U_api_Item, 55, true)]⟩ ⟨fun x => (x.1.1.1, x.1.2.1.1, x.1.2.2.2.2.1.1, x.2.1.1.1, x.2.2.1), fun v => (((v.1, ()), ((v.2.1, ()), ((), ((), ((v.2.2.1, ()), ()))))), ((v.2.2.2.1, ()), ()), (v.2.2.2.2, ())), fun _ => rfl⟩ (fun v => F_mempoollaw9_HeapSorts_l9 v.1 v.2.1 v.2.2.1 v.2.2.2.1 v.2.2.2.2) .leaf))) (.two .leaf (.two .leaf (.cut ⟨154, [(1, .one (.d (.sl (.int .i64)))), (6, .one (.row 1000000)), (8, .one (.ptr 1000000 0)), (9, .one (.ptr 1000001 0))], [(1000000, [.row 1000001, .row 1000002]), (1000001, [.row 1000003, .row 1000004])], [(1000000, U_api_Item, 55, true), (1000001, U_api_Item, 55, false), (1000002, (.pr (.int .i64) (.int .i64)), 4000004, false), (1000003, U_api_Item, 55, false), (1000004, (.pr (.int .i64) (.int .i64)), 4000004, false)]⟩ ⟨fun x => (x.1.1.1, x.2.2.1, x.2.2.2.1, x.2.2.2.2.1, x.2.2.2.2.2.1, x.2.2.2.2.2.2.1), fun v => (((v.1, ()), ((), ((), ((), ())))), ((), ((), ())), (v.2.1, (v.2.2.1, (v.2.2.2.1, (v.2.2.2.2.1, (v.2.2.2.2.2, ())))))), fun _ => rfl⟩ (fun v => F_mempoollaw9_HeapSorts_c2 v.1 v.2.1 v.2.2.1 v.2.2.2.1 v.2.2.2.2.1 v.2.2.2.2.2) (.two .leaf (.one (.loop ⟨154, [(1, .one (.d (.sl (.int .i64)))), (6, .one (.row 1000000)), (8, .one (.ptr 1000000 0)), (9, .one (.ptr 1000001 0)), (56, .one (.row 1000000)), (57, .one (.d (.int .i64))), (58, .one (.d (.int .i64)))], [(1000000, [.row 1000001, .row 1000002]), (1000001, [.row 1000003, .row 1000004])], [(1000000, U_api_Item, 55, true), (1000001, U_api_Item, 55, false), (1000002, (.pr (.int .i64) (.int .i64)), 4000004, false), (1000003, U_api_Item, 55, false), (1000004, (.pr (.int .i64) (.int .i64)), 4000004, false)]⟩ ⟨fun x => (x.1.1.1, x.1.2.2.2.2.2.1.1, x.1.2.2.2.2.2.2.1.1, x.2.2.1, x.2.2.2.1, x.2.2.2.2.1, x.2.2.2.2.2.1, x.2.2.2.2.2.2.1), fun v => (((v.1, ()), ((), ((), ((), ((), ((v.2.1, ()), ((v.2.2.1, ()), ()))))))), ((), ((), ())), (v.2.2.2.1, (v.2.2.2.2.1, (v.2.2.2.2.2.1, (v.2.2.2.2.2.2.1, (v.2.2.2.2.2.2.2, ())))))), fun _ => rfl⟩ (fun v => F_mempoollaw9_HeapSorts_l8 v.1 v.2.1 v.2.2.1 v.2.2.2.1 v.2.2.2.2.1 v.2.2.2.2.2.1 v.2.2.2.2.2.2.1 v.2.2.2.2.2.2.2) .leaf))) (.cut ⟨154, [(8, .one (.ptr 1000000 0)), (9, .one (.ptr 1000001 0))], [(1000000, [.row 1000000, .row 1000001]), (1000001, [.row 1000002, .row 1000003])], [(1000000, U_api_Item, 55, false), (1000001, (.pr (.int .i64) (.int .i64)), 4000004, false), (1000002, U_api_Item, 55, false), (1000003, (.pr (.int .i64) (.int .i64)), 4000004, false)]⟩ ⟨fun x => (x.2.2.1, x.2.2.2.1, x.2.2.2.2.1, x.2.2.2.2.2.1), fun v => (((), ((), ())), ((), ((), ())), (v.1, (v.2.1, (v.2.2.1, (v.2.2.2, ()))))), fun _ => rfl⟩ (fun v => F_mempoollaw9_HeapSorts_c3 v.1 v.2.1 v.2.2.1 v.2.2.2) (.one (.loop ⟨154, [(1, .one (.d (.sl (.int .i64)))), (6, .one (.row 1000000)), (8, .one (.ptr 1000000 0)), (9, .one (.ptr 1000001 0))], [(1000000, [.row 1000001, .row 1000002]), (1000001, [.row 1000003, .row 1000004])], [(1000000, U_api_Item, 55, true), (1000001, U_api_Item, 55, false), (1000002, (.pr (.int .i64) (.int .i64)), 4000004, false), (1000003, U_api_Item, 55, false), (1000004, (.pr (.int .i64) (.int .i64)), 4000004, false)]⟩ ⟨fun x => (x.1.1.1, x.2.2.1, x.2.2.2.1, x.2.2.2.2.1, x.2.2.2.2.2.1, x.2.2.2.2.2.2.1), fun v => (((v.1, ()), ((), ((), ((), ())))), ((), ((), ())), (v.2.1, (v.2.2.1, (v.2.2.2.1, (v.2.2.2.2.1, (v.2.2.2.2.2, ())))))), fun _ => rfl⟩ (fun v => F_mempoollaw9_HeapSorts_l6 v.1 v.2.1 v.2.2.1 v.2.2.2.1 v.2.2.2.2.1 v.2.2.2.2.2) (.two .leaf (.one (.two .leaf (.cut ⟨154, [(1, .one (.d (.sl (.int .i64)))), (6, .one (.row 1000000)), (8, .one (.ptr 1000000 0)), (9, .one (.ptr 1000001 0)), (12, .one (.d (.int .i64)))], [(1000000, [.row 1000001, .row 1000002]), (1000001, [.row 1000003, .row 1000004])], [(1000000, U_api_Item, 55, true), (1000001, U_api_Item, 55, false), (1000002, (.pr (.int .i64) (.int .i64)), 4000004, false), (1000003, U_api_Item, 55, false), (1000004, (.pr (.int .i64) (.int .i64)), 4000004, false)]⟩ ⟨fun x => (x.1.1.1, x.1.2.2.2.2.1.1, x.2.2.1, x.2.2.2.1, x.2.2.2.2.1, x.2.2.2.2.2.1, x.2.2.2.2.2.2.1), fun v => (((v.1, ()), ((), ((), ((), ((v.2.1, ()), ()))))), ((), ((), ())), (v.2.2.1, (v.2.2.2.1, (v.2.2.2.2.1, (v.2.2.2.2.2.1, (v.2.2.2.2.2.2, ())))))), fun _ => rfl⟩ (fun v => F_mempoollaw9_HeapSorts_c7 v.1 v.2.1 v.2.2.1 v.2.2.2.1 v.2.2.2.2.1 v.2.2.2.2.2.1 v.2.2.2.2.2.2) .leaf .leaf)))))) (.two .leaf (.cut ⟨154, [(8, .one (.ptr 1000000 0)), (9, .one (.ptr 1000001 0))], [(1000000, [.row 1000000, .row 1000001]), (1000001, [.row 1000002, .row 1000003])], [(1000000, U_api_Item, 55, false), (1000001, (.pr (.int .i64) (.int .i64)), 4000004, false), (1000002, U_api_Item, 55, false), (1000003, (.pr (.int .i64) (.int .i64)), 4000004, false)]⟩ ⟨fun x => (x.2.2.1, x.2.2.2.1, x.2.2.2.2.1, x.2.2.2.2.2.1), fun v => (((), ((), ())), ((), ((), ())), (v.1, (v.2.1, (v.2.2.1, (v.2.2.2, ()))))), fun _ => rfl⟩ (fun v => F_mempoollaw9_HeapSorts_c4 v.1 v.2.1 v.2.2.1 v.2.2.2) (.two .leaf (.one (.loop ⟨154, [(8, .one (.ptr 1000000 0)), (9, .one (.ptr 1000001 0)), (101, .one (.row 1000004)), (102, .one (.d (.int .i64))), (103, .one (.d (.int .i64)))], [(1000000, [.row 1000000, .row 1000001]), (1000001, [.row 1000002, .row 1000003])], [(1000000, U_api_Item, 55, false), (1000001, (.pr (.int .i64) (.int .i64)), 4000004, false), (1000002, U_api_Item, 55, false), (1000003, (.pr (.int .i64) (.int .i64)), 4000004, false), (1000004, U_api_Item, 55, true)]⟩ ⟨fun x => (x.1.2.2.2.1.1, x.1.2.2.2.2.1.1, x.2.2.1, x.2.2.2.1, x.2.2.2.2.1, x.2.2.2.2.2.1, x.2.2.2.2.2.2.1), fun v => (((), ((), ((), ((v.1, ()), ((v.2.1, ()), ()))))), ((), ((), ())), (v.2.2.1, (v.2.2.2.1, (v.2.2.2.2.1, (v.2.2.2.2.2.1, (v.2.2.2.2.2.2, ())))))), fun _ => rfl⟩ (fun v => F_mempoollaw9_HeapSorts_l5 v.1 v.2.1 v.2.2.1 v.2.2.2.1 v.2.2.2.2.1 v.2.2.2.2.2.1 v.2.2.2.2.2.2) .leaf))) .leaf)))))))))))
    (⟨trivial, ⟨trivial, ⟨trivial, ⟨trivial, ⟨⟨trivial, ⟨trivial, fun v => by kernel_rfl⟩⟩, ⟨trivial, ⟨trivial, ⟨⟨trivial, ⟨trivial, fun v => by kernel_rfl⟩⟩, ⟨⟨⟨trivial, ⟨trivial, ⟨trivial, trivial, fun v => by kernel_rfl⟩⟩⟩, fun v => by kernel_rfl⟩, ⟨trivial, ⟨⟨trivial, ⟨trivial, fun v => by kernel_rfl⟩⟩, trivial, fun v => by kernel_rfl⟩⟩, fun v => by kernel_rfl⟩, fun v => by kernel_rfl⟩⟩⟩, fun v => by kernel_rfl⟩⟩⟩⟩⟩) (fun a => by kernel_rfl)

noncomputable def g_heap_Heap_Peek_nil : TFn := ⟨.cons (.c (.npt)) .nil, .nil, .cons (.agg (.cons (.d U_api_Item) .nil)) (.cons (.c (.d .bool)) .nil), D_api_Item × Bool, fun _ => F_heap_Heap_Peek_nil, fun r => ((), ((r.1, ()), (r.2, ()))), .none⟩
theorem ok_heap_Heap_Peek_nil : FnT Try.prog 41 g_heap_Heap_Peek_nil :=
  fnT (T := T) (TU := TU) (Γ := []) T_ok (by rfl) (ctx_nil) Try.func41 rfl rfl rfl rfl (fun x => (x.2.1.1, x.2.2.1)) (fun _ => rfl)
    (.leaf)
    (trivial) (fun a => by kernel_rfl)

noncomputable def g_heap_Heap_take_nil : TFn := ⟨.cons (.c (.npt)) (.cons (.c (.d (.int .i64))) .nil), .nil, .nil, Unit, fun a => F_heap_Heap_take_nil a.2.1, fun _ => ((), ()), .none⟩
theorem ok_heap_Heap_take_nil : FnT Try.prog 59 g_heap_Heap_take_nil :=
  fnT (T := Tc) (TU := TU) (Γ := []) Tc_ok (by rfl) (ctx_nil) Try.func59 rfl rfl rfl rfl (fun _ => ()) (fun _ => rfl)
    (.leaf)
    (trivial) (fun a => by kernel_rfl)

noncomputable def g_heap_Heap_Pop_nil : TFn := ⟨.cons (.c (.npt)) .nil, .nil, .cons (.agg (.cons (.d U_api_Item) .nil)) (.cons (.c (.d .bool)) .nil), D_api_Item × Bool, fun _ => F_heap_Heap_Pop_nil, fun r => ((), ((r.1, ()), (r.2, ()))), .none⟩
theorem ok_heap_Heap_Pop_nil : FnT Try.prog 38 g_heap_Heap_Pop_nil :=
  fnT (T := T) (TU := TU) (Γ := [(1000041, g_heap_Heap_Peek_nil), (1000059, g_heap_Heap_take_nil)]) T_ok (by rfl) (ctx_cons ok_heap_Heap_Peek_nil (ctx_cons ok_heap_Heap_take_nil ctx_nil)) Try.func38 rfl rfl rfl rfl (fun x => (x.2.1.1, x.2.2.1)) (fun _ => rfl)
    (.leaf)
    (trivial) (fun a => by kernel_rfl)

noncomputable def g_heap_Heap_Push_nil : TFn := ⟨.cons (.c (.npt)) (.cons (.agg (.cons (.d U_api_Item) .nil)) .nil), .nil, .cons (.c (.d .bool)) .nil, Bool, fun a => F_heap_Heap_Push_nil a.2.1.1, fun r => ((), (r, ())), .none⟩
theorem ok_heap_Heap_Push_nil : FnT Try.prog 37 g_heap_Heap_Push_nil :=
  fnT (T := T) (TU := TU) (Γ := []) T_ok (by rfl) (ctx_nil) Try.func37 rfl rfl rfl rfl (fun x => x.2.1) (fun _ => rfl)
    (.leaf)
    (trivial) (fun a => by kernel_rfl)

noncomputable def g_heap_Heap_Remove_nil : TFn := ⟨.cons (.c (.npt)) (.cons (.c (.d (.int .i64))) .nil), .nil, .cons (.c (.d .bool)) .nil, Bool, fun a => F_heap_Heap_Remove_nil a.2.1, fun r => ((), (r, ())), .none⟩
theorem ok_heap_Heap_Remove_nil : FnT Try.prog 40 g_heap_Heap_Remove_nil :=
  fnT (T := T) (TU := TU) (Γ := []) T_ok (by rfl) (ctx_nil) Try.func40 rfl rfl rfl rfl (fun x => x.2.1) (fun _ => rfl)
    (.leaf)
    (trivial) (fun a => by kernel_rfl)

noncomputable def g_heap_Heap_Sorted_nil : TFn := ⟨.cons (.c (.npt)) .nil, .nil, .cons (.c (.row U_api_Item 55)) .nil, List D_api_Item, fun _ => F_heap_Heap_Sorted_nil, fun r => ((), (r, ())), .none⟩
theorem ok_heap_Heap_Sorted_nil : FnT Try.prog 44 g_heap_Heap_Sorted_nil :=
  fnT (T := T) (TU := TU) (Γ := []) T_ok (by rfl) (ctx_nil) Try.func44 rfl rfl rfl rfl (fun x => x.2.1) (fun _ => rfl)
    (.leaf)
    (trivial) (fun a => by kernel_rfl)

noncomputable def g_heap_Heap_Len_nil : TFn := ⟨.cons (.c (.npt)) .nil, .nil, .cons (.c (.d (.int .i64))) .nil, Int, fun _ => F_heap_Heap_Len_nil, fun r => ((), (r, ())), .none⟩
theorem ok_heap_Heap_Len_nil : FnT Try.prog 42 g_heap_Heap_Len_nil :=
  fnT (T := T) (TU := TU) (Γ := []) T_ok (by rfl) (ctx_nil) Try.func42 rfl rfl rfl rfl (fun x => x.2.1) (fun _ => rfl)
    (.leaf)
    (trivial) (fun a => by kernel_rfl)

noncomputable def g_mempoollaw9_HeapNil : TFn := ⟨.cons (.agg (.cons (.d U_api_Item) .nil)) .nil, .nil, .cons (.c (.d .bool)) .nil, Bool, fun a => F_mempoollaw9_HeapNil a.1.1, fun r => ((), (r, ())), .none⟩
theorem ok_mempoollaw9_HeapNil : FnT Try.prog 10 g_mempoollaw9_HeapNil :=
  fnT (T := T) (TU := TU) (Γ := [(1000038, g_heap_Heap_Pop_nil), (1000041, g_heap_Heap_Peek_nil), (1000037, g_heap_Heap_Push_nil), (1000040, g_heap_Heap_Remove_nil), (1000044, g_heap_Heap_Sorted_nil), (1000042, g_heap_Heap_Len_nil), (31, g_mempoollaw9_known)]) T_ok (by rfl) (ctx_cons ok_heap_Heap_Pop_nil (ctx_cons ok_heap_Heap_Peek_nil (ctx_cons ok_heap_Heap_Push_nil (ctx_cons ok_heap_Heap_Remove_nil (ctx_cons ok_heap_Heap_Sorted_nil (ctx_cons ok_heap_Heap_Len_nil (ctx_cons ok_mempoollaw9_known ctx_nil))))))) Try.func10 rfl rfl rfl rfl (fun x => x.2.1) (fun _ => rfl)
    (.leaf)
    (trivial) (fun a => by kernel_rfl)

end Go.Proofs.Ythmfeknfiekcmaa.Am
