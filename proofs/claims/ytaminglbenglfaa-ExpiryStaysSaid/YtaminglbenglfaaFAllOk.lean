/- The functions compute it: by the typed machine. No conditions. -/
import Derived.Test.YtaminglbenglfaaFAll
import Derived.KernelRfl
import Derived.Test.YtaminglbenglfaaSp
namespace Go.Proofs.Ytaminglbenglfaa.Am
open Go
set_option maxRecDepth 100000
noncomputable def g_mempoollaw18_long : TFn := ⟨.cons (.c (.d (.sl (.sl (.int .i64))))) .nil, .nil, .cons (.c (.d .bool)) .nil, Bool, fun a => F_mempoollaw18_long a.1, fun r => ((), (r, ())), .none⟩
theorem ok_mempoollaw18_long : FnT Try.prog 14 g_mempoollaw18_long :=
  fnT (T := T) (TU := TU) (Γ := []) T_ok (by rfl) (ctx_nil) Try.func14 rfl rfl rfl rfl (fun x => x.2.1) (fun _ => rfl)
    (.two .leaf (.two .leaf (.two (.two .leaf (.one (.loop ⟨19, [(3, .one (.d (.int .i64))), (6, .one (.d (.sl (.sl (.int .i64))))), (7, .one (.d (.int .i64))), (8, .one (.d (.int .i64)))], [], []⟩ ⟨fun x => (x.1.1.1, x.1.2.1.1, x.1.2.2.1.1, x.1.2.2.2.1.1), fun v => (((v.1, ()), ((v.2.1, ()), ((v.2.2.1, ()), ((v.2.2.2, ()), ())))), (), ()), fun _ => rfl⟩ (fun v => F_mempoollaw18_long_l1 v.1 v.2.1 v.2.2.1 v.2.2.2) .leaf))) .leaf)))
    (⟨trivial, ⟨trivial, ⟨⟨trivial, ⟨trivial, fun v => by kernel_rfl⟩⟩, trivial⟩⟩⟩) (fun a => by kernel_rfl)

noncomputable def g_expiry_New : TFn := ⟨.cons (.c (.d (.int .i64))) (.cons (.c (.d (.int .i64))) .nil), .nil, .cons (.c (.box (.cons (.d (.int .i64)) (.cons (.d (.int .i64)) (.cons (.row U_mempoolref16_Wait 4000005) .nil))))) .nil, Int × Int × List D_mempoolref16_Wait, fun a => F_expiry_New a.1 a.2.1, fun r => ((), ((r.1, (r.2.1, (r.2.2, ()))), ())), .none⟩
theorem ok_expiry_New : FnT Try.prog 17 g_expiry_New :=
  fnT (T := T) (TU := TU) (Γ := []) T_ok (by rfl) (ctx_nil) Try.func17 rfl rfl rfl rfl (fun x => (x.2.1.1, x.2.1.2.1, x.2.1.2.2.1)) (fun _ => rfl)
    (.leaf)
    (trivial) (fun a => by kernel_rfl)

noncomputable def g_expiry_Queue_Add : TFn := ⟨.cons (.bx (.cons (.d (.int .i64)) (.cons (.d (.int .i64)) (.cons (.row U_mempoolref16_Wait 4000005) .nil)))) (.cons (.c (.d (.int .i64))) (.cons (.c (.d (.int .i64))) (.cons (.c (.d (.int .i64))) .nil))), .cons (.cons (.d (.int .i64)) (.cons (.d (.int .i64)) (.cons (.row U_mempoolref16_Wait 4000005) .nil))) .nil, .cons (.c (.d .bool)) .nil, Int × Int × List D_mempoolref16_Wait × Bool, fun a => F_expiry_Queue_Add a.1.1 a.1.2.1 a.1.2.2.1 a.2.1 a.2.2.1 a.2.2.2.1, fun r => (((r.1, (r.2.1, (r.2.2.1, ()))), ()), (r.2.2.2, ())), .none⟩
theorem ok_expiry_Queue_Add : FnT Try.prog 19 g_expiry_Queue_Add :=
  fnT (T := T) (TU := TU) (Γ := []) T_ok (by rfl) (ctx_nil) Try.func19 rfl rfl rfl rfl (fun x => (x.1.1.1, x.1.1.2.1, x.1.1.2.2.1, x.2.1)) (fun _ => rfl)
    (.leaf)
    (trivial) (fun a => by kernel_rfl)

def g_maps_Keys_map_int_expiry_stamp_int_expiry_stamp : TFn := gSp (.keys 83)
theorem ok_maps_Keys_map_int_expiry_stamp_int_expiry_stamp : FnT Try.prog 59 g_maps_Keys_map_int_expiry_stamp_int_expiry_stamp := fnT_sp Try.func59 rfl rfl sp_59

def g_slices_Sorted_int : TFn := gSp (.sortI 83 3)
theorem ok_slices_Sorted_int : FnT Try.prog 58 g_slices_Sorted_int := fnT_sp Try.func58 rfl rfl sp_58

noncomputable def g_expiry_over : TFn := ⟨.cons (.c (.d (.int .i64))) (.cons (.c (.d (.int .i64))) (.cons (.c (.d (.int .i64))) .nil)), .nil, .cons (.c (.d .bool)) .nil, Bool, fun a => F_expiry_over a.1 a.2.1 a.2.2.1, fun r => ((), (r, ())), .none⟩
theorem ok_expiry_over : FnT Try.prog 60 g_expiry_over :=
  fnT (T := T) (TU := TU) (Γ := []) T_ok (by rfl) (ctx_nil) Try.func60 rfl rfl rfl rfl (fun x => x.2.1) (fun _ => rfl)
    (.leaf)
    (trivial) (fun a => by kernel_rfl)

noncomputable def g_expiry_Queue_Expired : TFn := ⟨.cons (.bx (.cons (.d (.int .i64)) (.cons (.d (.int .i64)) (.cons (.row U_mempoolref16_Wait 4000005) .nil)))) (.cons (.c (.d (.int .i64))) (.cons (.c (.d (.int .i64))) .nil)), .cons (.cons (.d (.int .i64)) (.cons (.d (.int .i64)) (.cons (.row U_mempoolref16_Wait 4000005) .nil))) .nil, .cons (.c (.row (.int .i64) 3)) .nil, Int × Int × List D_mempoolref16_Wait × List Int, fun a => F_expiry_Queue_Expired a.1.1 a.1.2.1 a.1.2.2.1 a.2.1 a.2.2.1, fun r => (((r.1, (r.2.1, (r.2.2.1, ()))), ()), (r.2.2.2, ())), .none⟩
theorem ok_expiry_Queue_Expired : FnT Try.prog 21 g_expiry_Queue_Expired :=
  fnT (T := T) (TU := TU) (Γ := [(59, g_maps_Keys_map_int_expiry_stamp_int_expiry_stamp), (58, g_slices_Sorted_int), (60, g_expiry_over)]) T_ok (by rfl) (ctx_cons ok_maps_Keys_map_int_expiry_stamp_int_expiry_stamp (ctx_cons ok_slices_Sorted_int (ctx_cons ok_expiry_over ctx_nil))) Try.func21 rfl rfl rfl rfl (fun x => (x.1.1.1, x.1.1.2.1, x.1.1.2.2.1, x.2.1)) (fun _ => rfl)
    (.two .leaf (.two .leaf (.two .leaf (.two (.two .leaf (.one (.loop ⟨54, [(0, .one (.ptr 1000000 0)), (1, .one (.d (.int .i64))), (2, .one (.d (.int .i64))), (7, .one (.row 1000001)), (18, .one (.row 1000002)), (19, .one (.d (.int .i64))), (20, .one (.d (.int .i64))), (54, .one (.ptr 1000000 0))], [(1000000, [.d (.int .i64), .d (.int .i64), .row 1000000])], [(1000000, U_mempoolref16_Wait, 4000005, false), (1000001, (.int .i64), 3, false), (1000002, (.int .i64), 3, false)]⟩ ⟨fun x => (x.1.2.1.1, x.1.2.2.1.1, x.1.2.2.2.2.2.1.1, x.1.2.2.2.2.2.2.1.1, x.2.1.1.1, x.2.1.1.2.1, x.2.2.1, x.2.2.2.1, x.2.2.2.2.1), fun v => (((), ((v.1, ()), ((v.2.1, ()), ((), ((), ((v.2.2.1, ()), ((v.2.2.2.1, ()), ((), ())))))))), ((v.2.2.2.2.1, (v.2.2.2.2.2.1, ())), ()), (v.2.2.2.2.2.2.1, (v.2.2.2.2.2.2.2.1, (v.2.2.2.2.2.2.2.2, ())))), fun _ => rfl⟩ (fun v => F_expiry_Queue_Expired_l1 v.1 v.2.1 v.2.2.1 v.2.2.2.1 v.2.2.2.2.1 v.2.2.2.2.2.1 v.2.2.2.2.2.2.1 v.2.2.2.2.2.2.2.1 v.2.2.2.2.2.2.2.2) .leaf))) .leaf))))
    (⟨trivial, ⟨trivial, ⟨trivial, ⟨⟨trivial, ⟨trivial, fun v => by kernel_rfl⟩⟩, trivial⟩⟩⟩⟩) (fun a => by kernel_rfl)

noncomputable def g_mempoolref1_SameInts : TFn := ⟨.cons (.c (.d (.sl (.int .i64)))) (.cons (.c (.d (.sl (.int .i64)))) .nil), .nil, .cons (.c (.d .bool)) .nil, Bool, fun a => F_mempoolref1_SameInts a.1 a.2.1, fun r => ((), (r, ())), .none⟩
theorem ok_mempoolref1_SameInts : FnT Try.prog 23 g_mempoolref1_SameInts :=
  fnT (T := T) (TU := TU) (Γ := []) T_ok (by rfl) (ctx_nil) Try.func23 rfl rfl rfl rfl (fun x => x.2.1) (fun _ => rfl)
    (.two .leaf (.two .leaf (.two (.two .leaf (.one (.loop ⟨26, [(0, .one (.d (.sl (.int .i64)))), (1, .one (.d (.sl (.int .i64)))), (12, .one (.d (.int .i64))), (13, .one (.d (.int .i64)))], [], []⟩ ⟨fun x => (x.1.1.1, x.1.2.1.1, x.1.2.2.1.1, x.1.2.2.2.1.1), fun v => (((v.1, ()), ((v.2.1, ()), ((v.2.2.1, ()), ((v.2.2.2, ()), ())))), (), ()), fun _ => rfl⟩ (fun v => F_mempoolref1_SameInts_l1 v.1 v.2.1 v.2.2.1 v.2.2.2) .leaf))) .leaf)))
    (⟨trivial, ⟨trivial, ⟨⟨trivial, ⟨trivial, fun v => by kernel_rfl⟩⟩, trivial⟩⟩⟩) (fun a => by kernel_rfl)

noncomputable def g_expiry_Queue_Len : TFn := ⟨.cons (.bx (.cons (.d (.int .i64)) (.cons (.d (.int .i64)) (.cons (.row U_mempoolref16_Wait 4000005) .nil)))) .nil, .cons (.cons (.d (.int .i64)) (.cons (.d (.int .i64)) (.cons (.row U_mempoolref16_Wait 4000005) .nil))) .nil, .cons (.c (.d (.int .i64))) .nil, Int × Int × List D_mempoolref16_Wait × Int, fun a => F_expiry_Queue_Len a.1.1 a.1.2.1 a.1.2.2.1, fun r => (((r.1, (r.2.1, (r.2.2.1, ()))), ()), (r.2.2.2, ())), .none⟩
theorem ok_expiry_Queue_Len : FnT Try.prog 24 g_expiry_Queue_Len :=
  fnT (T := T) (TU := TU) (Γ := []) T_ok (by rfl) (ctx_nil) Try.func24 rfl rfl rfl rfl (fun x => (x.1.1.1, x.1.1.2.1, x.1.1.2.2.1, x.2.1)) (fun _ => rfl)
    (.leaf)
    (trivial) (fun a => by kernel_rfl)

noncomputable def g_mempoollaw18_known : TFn := ⟨.nil, .nil, .cons (.c (.d .bool)) .nil, Bool, fun _ => F_mempoollaw18_known, fun r => ((), (r, ())), .none⟩
theorem ok_mempoollaw18_known : FnT Try.prog 15 g_mempoollaw18_known :=
  fnT (T := T) (TU := TU) (Γ := [(17, g_expiry_New), (19, g_expiry_Queue_Add), (21, g_expiry_Queue_Expired), (23, g_mempoolref1_SameInts), (24, g_expiry_Queue_Len)]) T_ok (by rfl) (ctx_cons ok_expiry_New (ctx_cons ok_expiry_Queue_Add (ctx_cons ok_expiry_Queue_Expired (ctx_cons ok_mempoolref1_SameInts (ctx_cons ok_expiry_Queue_Len ctx_nil))))) Try.func15 rfl rfl rfl rfl (fun x => x.2.1) (fun _ => rfl)
    (.leaf)
    (trivial) (fun a => by kernel_rfl)

noncomputable def g_mempoolmake_From : TFn := ⟨.cons (.c (.d (.sl (.int .i64)))) .nil, .nil, .cons (.c (.box (.cons (.d U_mempoolmake_Numbers) .nil))) .nil, D_mempoolmake_Numbers, fun a => F_mempoolmake_From a.1, fun r => ((), ((r, ()), ())), .none⟩
theorem ok_mempoolmake_From : FnT Try.prog 16 g_mempoolmake_From :=
  fnT (T := T) (TU := TU) (Γ := []) T_ok (by rfl) (ctx_nil) Try.func16 rfl rfl rfl rfl (fun x => x.2.1.1) (fun _ => rfl)
    (.leaf)
    (trivial) (fun a => by kernel_rfl)

noncomputable def g_mempoolmake_Place : TFn := ⟨.cons (.c (.d (.int .i64))) (.cons (.c (.d (.int .i64))) .nil), .nil, .cons (.c (.d (.int .i64))) .nil, Int, fun a => F_mempoolmake_Place a.1 a.2.1, fun r => ((), (r, ())), .none⟩
theorem ok_mempoolmake_Place : FnT Try.prog 20 g_mempoolmake_Place :=
  fnT (T := T) (TU := TU) (Γ := []) T_ok (by rfl) (ctx_nil) Try.func20 rfl rfl rfl rfl (fun x => x.2.1) (fun _ => rfl)
    (.leaf)
    (trivial) (fun a => by kernel_rfl)

noncomputable def g_mempoolmake_Numbers_Next : TFn := ⟨.cons (.bx (.cons (.d U_mempoolmake_Numbers) .nil)) (.cons (.c (.d (.int .i64))) .nil), .cons (.cons (.d U_mempoolmake_Numbers) .nil) .nil, .cons (.c (.d (.int .i64))) .nil, D_mempoolmake_Numbers × Int, fun a => F_mempoolmake_Numbers_Next a.1.1 a.2.1, fun r => (((r.1, ()), ()), (r.2, ())), .none⟩
theorem ok_mempoolmake_Numbers_Next : FnT Try.prog 18 g_mempoolmake_Numbers_Next :=
  fnT (T := T) (TU := TU) (Γ := [(20, g_mempoolmake_Place)]) T_ok (by rfl) (ctx_cons ok_mempoolmake_Place ctx_nil) Try.func18 rfl rfl rfl rfl (fun x => (x.1.1.1, x.2.1)) (fun _ => rfl)
    (.two .leaf (.two .leaf (.cut ⟨36, [(0, .one (.ptr 1000000 0)), (1, .one (.d (.int .i64))), (5, .one (.d (.int .i64))), (36, .one (.ptr 1000000 0))], [(1000000, [.d U_mempoolmake_Numbers])], []⟩ ⟨fun x => (x.1.2.1.1, x.1.2.2.1.1, x.2.1.1.1), fun v => (((), ((v.1, ()), ((v.2.1, ()), ((), ())))), ((v.2.2, ()), ()), ()), fun _ => rfl⟩ (fun v => F_mempoolmake_Numbers_Next_c1 v.1 v.2.1 v.2.2) .leaf .leaf)))
    (⟨trivial, ⟨trivial, ⟨trivial, trivial, fun v => by kernel_rfl⟩⟩⟩) (fun a => by kernel_rfl)

noncomputable def g_mempoolref16_RemoveWait : TFn := ⟨.cons (.c (.d (.sl U_mempoolref16_Wait))) (.cons (.c (.d (.int .i64))) .nil), .nil, .cons (.c (.d (.sl U_mempoolref16_Wait))) (.cons (.c (.d .bool)) .nil), List D_mempoolref16_Wait × Bool, fun a => F_mempoolref16_RemoveWait a.1 a.2.1, fun r => ((), (r.1, (r.2, ()))), .none⟩
theorem ok_mempoolref16_RemoveWait : FnT Try.prog 25 g_mempoolref16_RemoveWait :=
  fnT (T := T) (TU := TU) (Γ := []) T_ok (by rfl) (ctx_nil) Try.func25 rfl rfl rfl rfl (fun x => (x.2.1, x.2.2.1)) (fun _ => rfl)
    (.two .leaf (.two (.two .leaf (.one (.loop ⟨31, [(0, .one (.d (.sl U_mempoolref16_Wait))), (1, .one (.d (.int .i64))), (8, .one (.d (.sl U_mempoolref16_Wait))), (9, .one (.d (.int .i64))), (10, .one (.d (.int .i64)))], [], []⟩ ⟨fun x => (x.1.1.1, x.1.2.1.1, x.1.2.2.1.1, x.1.2.2.2.1.1, x.1.2.2.2.2.1.1), fun v => (((v.1, ()), ((v.2.1, ()), ((v.2.2.1, ()), ((v.2.2.2.1, ()), ((v.2.2.2.2, ()), ()))))), (), ()), fun _ => rfl⟩ (fun v => F_mempoolref16_RemoveWait_l1 v.1 v.2.1 v.2.2.1 v.2.2.2.1 v.2.2.2.2) .leaf))) .leaf))
    (⟨trivial, ⟨⟨trivial, ⟨trivial, fun v => by kernel_rfl⟩⟩, trivial⟩⟩) (fun a => by kernel_rfl)

noncomputable def g_expiry_Queue_Remove : TFn := ⟨.cons (.bx (.cons (.d (.int .i64)) (.cons (.d (.int .i64)) (.cons (.row U_mempoolref16_Wait 4000005) .nil)))) (.cons (.c (.d (.int .i64))) .nil), .cons (.cons (.d (.int .i64)) (.cons (.d (.int .i64)) (.cons (.row U_mempoolref16_Wait 4000005) .nil))) .nil, .cons (.c (.d .bool)) .nil, Int × Int × List D_mempoolref16_Wait × Bool, fun a => F_expiry_Queue_Remove a.1.1 a.1.2.1 a.1.2.2.1 a.2.1, fun r => (((r.1, (r.2.1, (r.2.2.1, ()))), ()), (r.2.2.2, ())), .none⟩
theorem ok_expiry_Queue_Remove : FnT Try.prog 26 g_expiry_Queue_Remove :=
  fnT (T := T) (TU := TU) (Γ := []) T_ok (by rfl) (ctx_nil) Try.func26 rfl rfl rfl rfl (fun x => (x.1.1.1, x.1.1.2.1, x.1.1.2.2.1, x.2.1)) (fun _ => rfl)
    (.leaf)
    (trivial) (fun a => by kernel_rfl)

noncomputable def g_mempoollaw18_number : TFn := ⟨.cons (.bx (.cons (.d U_mempoolmake_Numbers) .nil)) .nil, .cons (.cons (.d U_mempoolmake_Numbers) .nil) .nil, .cons (.c (.d (.int .i64))) .nil, D_mempoolmake_Numbers × Int, fun a => F_mempoollaw18_number a.1.1, fun r => (((r.1, ()), ()), (r.2, ())), .none⟩
theorem ok_mempoollaw18_number : FnT Try.prog 27 g_mempoollaw18_number :=
  fnT (T := T) (TU := TU) (Γ := [(18, g_mempoolmake_Numbers_Next)]) T_ok (by rfl) (ctx_cons ok_mempoolmake_Numbers_Next ctx_nil) Try.func27 rfl rfl rfl rfl (fun x => (x.1.1.1, x.2.1)) (fun _ => rfl)
    (.leaf)
    (trivial) (fun a => by kernel_rfl)

noncomputable def g_mempoolref16_Late : TFn := ⟨.cons (.c (.d (.int .i64))) (.cons (.c (.d (.int .i64))) (.cons (.c (.d (.int .i64))) .nil)), .nil, .cons (.c (.d .bool)) .nil, Bool, fun a => F_mempoolref16_Late a.1 a.2.1 a.2.2.1, fun r => ((), (r, ())), .none⟩
theorem ok_mempoolref16_Late : FnT Try.prog 61 g_mempoolref16_Late :=
  fnT (T := T) (TU := TU) (Γ := []) T_ok (by rfl) (ctx_nil) Try.func61 rfl rfl rfl rfl (fun x => x.2.1) (fun _ => rfl)
    (.leaf)
    (trivial) (fun a => by kernel_rfl)

noncomputable def g_mempoolref16_Expired : TFn := ⟨.cons (.c (.d (.sl U_mempoolref16_Wait))) (.cons (.c (.d (.int .i64))) (.cons (.c (.d (.int .i64))) (.cons (.c (.d (.int .i64))) (.cons (.c (.d (.int .i64))) .nil)))), .nil, .cons (.c (.row (.int .i64) 3)) .nil, List Int, fun a => F_mempoolref16_Expired a.1 a.2.1 a.2.2.1 a.2.2.2.1 a.2.2.2.2.1, fun r => ((), (r, ())), .none⟩
theorem ok_mempoolref16_Expired : FnT Try.prog 28 g_mempoolref16_Expired :=
  fnT (T := T) (TU := TU) (Γ := [(61, g_mempoolref16_Late)]) T_ok (by rfl) (ctx_cons ok_mempoolref16_Late ctx_nil) Try.func28 rfl rfl rfl rfl (fun x => x.2.1) (fun _ => rfl)
    (.two .leaf (.two .leaf (.two (.two .leaf (.one (.loop ⟨39, [(1, .one (.d (.int .i64))), (2, .one (.d (.int .i64))), (3, .one (.d (.int .i64))), (4, .one (.d (.int .i64))), (11, .one (.row 1000000)), (14, .one (.d (.sl U_mempoolref16_Wait))), (15, .one (.d (.int .i64))), (16, .one (.d (.int .i64)))], [], [(1000000, (.int .i64), 3, false)]⟩ ⟨fun x => (x.1.1.1, x.1.2.1.1, x.1.2.2.1.1, x.1.2.2.2.1.1, x.1.2.2.2.2.2.1.1, x.1.2.2.2.2.2.2.1.1, x.1.2.2.2.2.2.2.2.1.1, x.2.2.1), fun v => (((v.1, ()), ((v.2.1, ()), ((v.2.2.1, ()), ((v.2.2.2.1, ()), ((), ((v.2.2.2.2.1, ()), ((v.2.2.2.2.2.1, ()), ((v.2.2.2.2.2.2.1, ()), ())))))))), (), (v.2.2.2.2.2.2.2, ())), fun _ => rfl⟩ (fun v => F_mempoolref16_Expired_l1 v.1 v.2.1 v.2.2.1 v.2.2.2.1 v.2.2.2.2.1 v.2.2.2.2.2.1 v.2.2.2.2.2.2.1 v.2.2.2.2.2.2.2) .leaf))) .leaf)))
    (⟨trivial, ⟨trivial, ⟨⟨trivial, ⟨trivial, fun v => by kernel_rfl⟩⟩, trivial⟩⟩⟩) (fun a => by kernel_rfl)

noncomputable def g_mempoolref16_AddWait : TFn := ⟨.cons (.c (.d (.sl U_mempoolref16_Wait))) (.cons (.agg (.cons (.d U_mempoolref16_Wait) .nil)) .nil), .nil, .cons (.c (.d (.sl U_mempoolref16_Wait))) (.cons (.c (.d .bool)) .nil), List D_mempoolref16_Wait × Bool, fun a => F_mempoolref16_AddWait a.1 a.2.1.1, fun r => ((), (r.1, (r.2, ()))), .none⟩
theorem ok_mempoolref16_AddWait : FnT Try.prog 29 g_mempoolref16_AddWait :=
  fnT (T := T) (TU := TU) (Γ := []) T_ok (by rfl) (ctx_nil) Try.func29 rfl rfl rfl rfl (fun x => (x.2.1, x.2.2.1)) (fun _ => rfl)
    (.two .leaf (.two .leaf (.cut ⟨42, [(0, .one (.d (.sl U_mempoolref16_Wait))), (3, .one (.ptr 1000000 0)), (6, .one (.d (.int .i64)))], [(1000000, [.d U_mempoolref16_Wait])], []⟩ ⟨fun x => (x.1.1.1, x.1.2.2.1.1, x.2.1.1.1), fun v => (((v.1, ()), ((), ((v.2.1, ()), ()))), ((v.2.2, ()), ()), ()), fun _ => rfl⟩ (fun v => F_mempoolref16_AddWait_c1 v.1 v.2.1 v.2.2) (.two .leaf (.one (.loop ⟨42, [(0, .one (.d (.sl U_mempoolref16_Wait))), (3, .one (.ptr 1000000 0)), (6, .one (.d (.int .i64))), (9, .one (.d (.sl U_mempoolref16_Wait))), (10, .one (.d (.int .i64))), (11, .one (.d (.int .i64)))], [(1000000, [.d U_mempoolref16_Wait])], []⟩ ⟨fun x => (x.1.1.1, x.1.2.2.1.1, x.1.2.2.2.1.1, x.1.2.2.2.2.1.1, x.1.2.2.2.2.2.1.1, x.2.1.1.1), fun v => (((v.1, ()), ((), ((v.2.1, ()), ((v.2.2.1, ()), ((v.2.2.2.1, ()), ((v.2.2.2.2.1, ()), ())))))), ((v.2.2.2.2.2, ()), ()), ()), fun _ => rfl⟩ (fun v => F_mempoolref16_AddWait_l2 v.1 v.2.1 v.2.2.1 v.2.2.2.1 v.2.2.2.2.1 v.2.2.2.2.2) .leaf))) .leaf)))
    (⟨trivial, ⟨trivial, ⟨⟨trivial, ⟨trivial, fun v => by kernel_rfl⟩⟩, trivial, fun v => by kernel_rfl⟩⟩⟩) (fun a => by kernel_rfl)

noncomputable def g_mempoollaw18_ExpiryPlays : TFn := ⟨.cons (.c (.d (.sl (.int .i64)))) (.cons (.c (.d (.int .i64))) (.cons (.c (.d (.int .i64))) .nil)), .nil, .cons (.c (.d .bool)) .nil, Bool, fun a => F_mempoollaw18_ExpiryPlays a.1 a.2.1 a.2.2.1, fun r => ((), (r, ())), .none⟩
theorem ok_mempoollaw18_ExpiryPlays : FnT Try.prog 4 g_mempoollaw18_ExpiryPlays :=
  fnT (T := T) (TU := TU) (Γ := [(14, g_mempoollaw18_long), (15, g_mempoollaw18_known), (16, g_mempoolmake_From), (18, g_mempoolmake_Numbers_Next), (17, g_expiry_New), (25, g_mempoolref16_RemoveWait), (26, g_expiry_Queue_Remove), (27, g_mempoollaw18_number), (21, g_expiry_Queue_Expired), (28, g_mempoolref16_Expired), (23, g_mempoolref1_SameInts), (29, g_mempoolref16_AddWait), (19, g_expiry_Queue_Add), (24, g_expiry_Queue_Len)]) T_ok (by rfl) (ctx_cons ok_mempoollaw18_long (ctx_cons ok_mempoollaw18_known (ctx_cons ok_mempoolmake_From (ctx_cons ok_mempoolmake_Numbers_Next (ctx_cons ok_expiry_New (ctx_cons ok_mempoolref16_RemoveWait (ctx_cons ok_expiry_Queue_Remove (ctx_cons ok_mempoollaw18_number (ctx_cons ok_expiry_Queue_Expired (ctx_cons ok_mempoolref16_Expired (ctx_cons ok_mempoolref1_SameInts (ctx_cons ok_mempoolref16_AddWait (ctx_cons ok_expiry_Queue_Add (ctx_cons ok_expiry_Queue_Len ctx_nil)))))))))))))) Try.func4 rfl rfl rfl rfl (fun x => x.2.1) (fun _ => rfl)
    (.two .leaf (.two .leaf (.two .leaf (.cut ⟨130, [(0, .one (.d (.sl (.int .i64)))), (1, .one (.d (.int .i64))), (2, .one (.d (.int .i64))), (7, .one (.ptr 1000000 0))], [(1000000, [.d U_mempoolmake_Numbers])], []⟩ ⟨fun x => (x.1.1.1, x.1.2.1.1, x.1.2.2.1.1, x.2.1.1.1), fun v => (((v.1, ()), ((v.2.1, ()), ((v.2.2.1, ()), ((), ())))), ((v.2.2.2, ()), ()), ()), fun _ => rfl⟩ (fun v => F_mempoollaw18_ExpiryPlays_c1 v.1 v.2.1 v.2.2.1 v.2.2.2) .leaf (.two .leaf (.two .leaf (.two .leaf (.cut ⟨130, [(1, .one (.d (.int .i64))), (2, .one (.d (.int .i64))), (8, .one (.ptr 1000000 0)), (9, .one (.d (.sl U_mempoolref16_Wait)))], [(1000000, [.d (.int .i64), .d (.int .i64), .row 1000000])], [(1000000, U_mempoolref16_Wait, 4000005, false)]⟩ ⟨fun x => (x.1.1.1, x.1.2.1.1, x.1.2.2.2.1.1, x.2.1.1.1, x.2.1.1.2.1, x.2.2.1), fun v => (((v.1, ()), ((v.2.1, ()), ((), ((v.2.2.1, ()), ())))), ((v.2.2.2.1, (v.2.2.2.2.1, ())), ()), (v.2.2.2.2.2, ())), fun _ => rfl⟩ (fun v => F_mempoollaw18_ExpiryPlays_c2 v.1 v.2.1 v.2.2.1 v.2.2.2.1 v.2.2.2.2.1 v.2.2.2.2.2) (.one (.loop ⟨130, [(0, .one (.d (.sl (.int .i64)))), (1, .one (.d (.int .i64))), (2, .one (.d (.int .i64))), (7, .one (.ptr 1000000 0)), (8, .one (.ptr 1000001 0)), (9, .one (.d (.sl U_mempoolref16_Wait)))], [(1000000, [.d U_mempoolmake_Numbers]), (1000001, [.d (.int .i64), .d (.int .i64), .row 1000000])], [(1000000, U_mempoolref16_Wait, 4000005, false)]⟩ ⟨fun x => (x.1.1.1, x.1.2.1.1, x.1.2.2.1.1, x.1.2.2.2.2.2.1.1, x.2.1.1.1, x.2.1.2.1.1, x.2.1.2.1.2.1, x.2.2.1), fun v => (((v.1, ()), ((v.2.1, ()), ((v.2.2.1, ()), ((), ((), ((v.2.2.2.1, ()), ())))))), ((v.2.2.2.2.1, ()), ((v.2.2.2.2.2.1, (v.2.2.2.2.2.2.1, ())), ())), (v.2.2.2.2.2.2.2, ())), fun _ => rfl⟩ (fun v => F_mempoollaw18_ExpiryPlays_l4 v.1 v.2.1 v.2.2.1 v.2.2.2.1 v.2.2.2.2.1 v.2.2.2.2.2.1 v.2.2.2.2.2.2.1 v.2.2.2.2.2.2.2) .leaf)) (.two (.two .leaf (.one (.loop ⟨130, [(1, .one (.d (.int .i64))), (2, .one (.d (.int .i64))), (8, .one (.ptr 1000000 0)), (9, .one (.d (.sl U_mempoolref16_Wait))), (18, .one (.d (.int .i64)))], [(1000000, [.d (.int .i64), .d (.int .i64), .row 1000000])], [(1000000, U_mempoolref16_Wait, 4000005, false)]⟩ ⟨fun x => (x.1.1.1, x.1.2.1.1, x.1.2.2.2.1.1, x.1.2.2.2.2.1.1, x.2.1.1.1, x.2.1.1.2.1, x.2.2.1), fun v => (((v.1, ()), ((v.2.1, ()), ((), ((v.2.2.1, ()), ((v.2.2.2.1, ()), ()))))), ((v.2.2.2.2.1, (v.2.2.2.2.2.1, ())), ()), (v.2.2.2.2.2.2, ())), fun _ => rfl⟩ (fun v => F_mempoollaw18_ExpiryPlays_l3 v.1 v.2.1 v.2.2.1 v.2.2.2.1 v.2.2.2.2.1 v.2.2.2.2.2.1 v.2.2.2.2.2.2) .leaf))) .leaf)))))))))
    (⟨trivial, ⟨trivial, ⟨trivial, ⟨trivial, ⟨trivial, ⟨trivial, ⟨trivial, ⟨⟨trivial, fun v => by kernel_rfl⟩, ⟨⟨trivial, ⟨trivial, fun v => by kernel_rfl⟩⟩, trivial⟩, fun v => by kernel_rfl⟩⟩⟩⟩, fun v => by kernel_rfl⟩⟩⟩⟩) (fun a => by kernel_rfl)

noncomputable def g_mempoolref1_HasInt : TFn := ⟨.cons (.c (.d (.sl (.int .i64)))) (.cons (.c (.d (.int .i64))) .nil), .nil, .cons (.c (.d .bool)) .nil, Bool, fun a => F_mempoolref1_HasInt a.1 a.2.1, fun r => ((), (r, ())), .none⟩
theorem ok_mempoolref1_HasInt : FnT Try.prog 22 g_mempoolref1_HasInt :=
  fnT (T := T) (TU := TU) (Γ := []) T_ok (by rfl) (ctx_nil) Try.func22 rfl rfl rfl rfl (fun x => x.2.1) (fun _ => rfl)
    (.two .leaf (.two (.two .leaf (.one (.loop ⟨17, [(1, .one (.d (.int .i64))), (7, .one (.d (.sl (.int .i64)))), (8, .one (.d (.int .i64))), (9, .one (.d (.int .i64)))], [], []⟩ ⟨fun x => (x.1.1.1, x.1.2.1.1, x.1.2.2.1.1, x.1.2.2.2.1.1), fun v => (((v.1, ()), ((v.2.1, ()), ((v.2.2.1, ()), ((v.2.2.2, ()), ())))), (), ()), fun _ => rfl⟩ (fun v => F_mempoolref1_HasInt_l1 v.1 v.2.1 v.2.2.1 v.2.2.2) .leaf))) .leaf))
    (⟨trivial, ⟨⟨trivial, ⟨trivial, fun v => by kernel_rfl⟩⟩, trivial⟩⟩) (fun a => by kernel_rfl)

noncomputable def g_mempoollaw18_ExpiryStays : TFn := ⟨.cons (.c (.d (.sl (.int .i64)))) (.cons (.c (.d (.int .i64))) (.cons (.c (.d (.int .i64))) (.cons (.c (.d (.int .i64))) (.cons (.c (.d (.int .i64))) .nil)))), .nil, .cons (.c (.d .bool)) .nil, Bool, fun a => F_mempoollaw18_ExpiryStays a.1 a.2.1 a.2.2.1 a.2.2.2.1 a.2.2.2.2.1, fun r => ((), (r, ())), .none⟩
theorem ok_mempoollaw18_ExpiryStays : FnT Try.prog 3 g_mempoollaw18_ExpiryStays :=
  fnT (T := T) (TU := TU) (Γ := [(14, g_mempoollaw18_long), (15, g_mempoollaw18_known), (16, g_mempoolmake_From), (18, g_mempoolmake_Numbers_Next), (17, g_expiry_New), (19, g_expiry_Queue_Add), (20, g_mempoolmake_Place), (21, g_expiry_Queue_Expired), (22, g_mempoolref1_HasInt), (23, g_mempoolref1_SameInts), (24, g_expiry_Queue_Len)]) T_ok (by rfl) (ctx_cons ok_mempoollaw18_long (ctx_cons ok_mempoollaw18_known (ctx_cons ok_mempoolmake_From (ctx_cons ok_mempoolmake_Numbers_Next (ctx_cons ok_expiry_New (ctx_cons ok_expiry_Queue_Add (ctx_cons ok_mempoolmake_Place (ctx_cons ok_expiry_Queue_Expired (ctx_cons ok_mempoolref1_HasInt (ctx_cons ok_mempoolref1_SameInts (ctx_cons ok_expiry_Queue_Len ctx_nil))))))))))) Try.func3 rfl rfl rfl rfl (fun x => x.2.1) (fun _ => rfl)
    (.two .leaf (.two .leaf (.two .leaf (.two .leaf (.two .leaf (.cut ⟨92, [(1, .one (.d (.int .i64))), (2, .one (.d (.int .i64))), (3, .one (.d (.int .i64))), (4, .one (.d (.int .i64))), (12, .one (.ptr 1000000 0))], [(1000000, [.d (.int .i64), .d (.int .i64), .row 1000000])], [(1000000, U_mempoolref16_Wait, 4000005, false)]⟩ ⟨fun x => (x.1.1.1, x.1.2.1.1, x.1.2.2.1.1, x.1.2.2.2.1.1, x.2.1.1.1, x.2.1.1.2.1, x.2.2.1), fun v => (((v.1, ()), ((v.2.1, ()), ((v.2.2.1, ()), ((v.2.2.2.1, ()), ((), ()))))), ((v.2.2.2.2.1, (v.2.2.2.2.2.1, ())), ()), (v.2.2.2.2.2.2, ())), fun _ => rfl⟩ (fun v => F_mempoollaw18_ExpiryStays_c1 v.1 v.2.1 v.2.2.1 v.2.2.2.1 v.2.2.2.2.1 v.2.2.2.2.2.1 v.2.2.2.2.2.2) (.one (.loop ⟨92, [(0, .one (.d (.sl (.int .i64)))), (1, .one (.d (.int .i64))), (2, .one (.d (.int .i64))), (3, .one (.d (.int .i64))), (4, .one (.d (.int .i64))), (11, .one (.ptr 1000000 0)), (12, .one (.ptr 1000001 0))], [(1000000, [.d U_mempoolmake_Numbers]), (1000001, [.d (.int .i64), .d (.int .i64), .row 1000000])], [(1000000, U_mempoolref16_Wait, 4000005, false)]⟩ ⟨fun x => (x.1.1.1, x.1.2.1.1, x.1.2.2.1.1, x.1.2.2.2.1.1, x.1.2.2.2.2.1.1, x.2.1.1.1, x.2.1.2.1.1, x.2.1.2.1.2.1, x.2.2.1), fun v => (((v.1, ()), ((v.2.1, ()), ((v.2.2.1, ()), ((v.2.2.2.1, ()), ((v.2.2.2.2.1, ()), ((), ((), ()))))))), ((v.2.2.2.2.2.1, ()), ((v.2.2.2.2.2.2.1, (v.2.2.2.2.2.2.2.1, ())), ())), (v.2.2.2.2.2.2.2.2, ())), fun _ => rfl⟩ (fun v => F_mempoollaw18_ExpiryStays_l4 v.1 v.2.1 v.2.2.1 v.2.2.2.1 v.2.2.2.2.1 v.2.2.2.2.2.1 v.2.2.2.2.2.2.1 v.2.2.2.2.2.2.2.1 v.2.2.2.2.2.2.2.2) .leaf)) (.two .leaf (.two .leaf (.two .leaf (.cut ⟨92, [(12, .one (.ptr 1000000 0)), (13, .one (.d (.int .i64))), (14, .one (.d (.int .i64))), (15, .one (.row 1000001)), (16, .one (.row 1000002))], [(1000000, [.d (.int .i64), .d (.int .i64), .row 1000000])], [(1000000, U_mempoolref16_Wait, 4000005, false), (1000001, (.int .i64), 3, false), (1000002, (.int .i64), 3, true)]⟩ ⟨fun x => (x.1.2.1.1, x.1.2.2.1.1, x.2.1.1.1, x.2.1.1.2.1, x.2.2.1, x.2.2.2.1, x.2.2.2.2.1), fun v => (((), ((v.1, ()), ((v.2.1, ()), ((), ((), ()))))), ((v.2.2.1, (v.2.2.2.1, ())), ()), (v.2.2.2.2.1, (v.2.2.2.2.2.1, (v.2.2.2.2.2.2, ())))), fun _ => rfl⟩ (fun v => F_mempoollaw18_ExpiryStays_c2 v.1 v.2.1 v.2.2.1 v.2.2.2.1 v.2.2.2.2.1 v.2.2.2.2.2.1 v.2.2.2.2.2.2) (.two .leaf (.one (.loop ⟨92, [(12, .one (.ptr 1000000 0)), (13, .one (.d (.int .i64))), (14, .one (.d (.int .i64))), (15, .one (.row 1000001)), (16, .one (.row 1000002)), (65, .one (.row 1000001)), (66, .one (.d (.int .i64))), (67, .one (.d (.int .i64)))], [(1000000, [.d (.int .i64), .d (.int .i64), .row 1000000])], [(1000000, U_mempoolref16_Wait, 4000005, false), (1000001, (.int .i64), 3, false), (1000002, (.int .i64), 3, true)]⟩ ⟨fun x => (x.1.2.1.1, x.1.2.2.1.1, x.1.2.2.2.2.2.2.1.1, x.1.2.2.2.2.2.2.2.1.1, x.2.1.1.1, x.2.1.1.2.1, x.2.2.1, x.2.2.2.1, x.2.2.2.2.1), fun v => (((), ((v.1, ()), ((v.2.1, ()), ((), ((), ((), ((v.2.2.1, ()), ((v.2.2.2.1, ()), ())))))))), ((v.2.2.2.2.1, (v.2.2.2.2.2.1, ())), ()), (v.2.2.2.2.2.2.1, (v.2.2.2.2.2.2.2.1, (v.2.2.2.2.2.2.2.2, ())))), fun _ => rfl⟩ (fun v => F_mempoollaw18_ExpiryStays_l3 v.1 v.2.1 v.2.2.1 v.2.2.2.1 v.2.2.2.2.1 v.2.2.2.2.2.1 v.2.2.2.2.2.2.1 v.2.2.2.2.2.2.2.1 v.2.2.2.2.2.2.2.2) .leaf))) .leaf))))))))))
    (⟨trivial, ⟨trivial, ⟨trivial, ⟨trivial, ⟨trivial, ⟨⟨trivial, fun v => by kernel_rfl⟩, ⟨trivial, ⟨trivial, ⟨trivial, ⟨⟨trivial, ⟨trivial, fun v => by kernel_rfl⟩⟩, trivial, fun v => by kernel_rfl⟩⟩⟩⟩, fun v => by kernel_rfl⟩⟩⟩⟩⟩⟩) (fun a => by kernel_rfl)

noncomputable def g_expiry_Queue_Add_nil : TFn := ⟨.cons (.c (.npt)) (.cons (.c (.d (.int .i64))) (.cons (.c (.d (.int .i64))) (.cons (.c (.d (.int .i64))) .nil))), .nil, .cons (.c (.d .bool)) .nil, Bool, fun a => F_expiry_Queue_Add_nil a.2.1 a.2.2.1 a.2.2.2.1, fun r => ((), (r, ())), .none⟩
theorem ok_expiry_Queue_Add_nil : FnT Try.prog 19 g_expiry_Queue_Add_nil :=
  fnT (T := T) (TU := TU) (Γ := []) T_ok (by rfl) (ctx_nil) Try.func19 rfl rfl rfl rfl (fun x => x.2.1) (fun _ => rfl)
    (.leaf)
    (trivial) (fun a => by kernel_rfl)

noncomputable def g_expiry_Queue_Remove_nil : TFn := ⟨.cons (.c (.npt)) (.cons (.c (.d (.int .i64))) .nil), .nil, .cons (.c (.d .bool)) .nil, Bool, fun a => F_expiry_Queue_Remove_nil a.2.1, fun r => ((), (r, ())), .none⟩
theorem ok_expiry_Queue_Remove_nil : FnT Try.prog 26 g_expiry_Queue_Remove_nil :=
  fnT (T := T) (TU := TU) (Γ := []) T_ok (by rfl) (ctx_nil) Try.func26 rfl rfl rfl rfl (fun x => x.2.1) (fun _ => rfl)
    (.leaf)
    (trivial) (fun a => by kernel_rfl)

noncomputable def g_expiry_Queue_Expired_nil : TFn := ⟨.cons (.c (.npt)) (.cons (.c (.d (.int .i64))) (.cons (.c (.d (.int .i64))) .nil)), .nil, .cons (.c (.row (.int .i64) 3)) .nil, List Int, fun a => F_expiry_Queue_Expired_nil a.2.1 a.2.2.1, fun r => ((), (r, ())), .none⟩
theorem ok_expiry_Queue_Expired_nil : FnT Try.prog 21 g_expiry_Queue_Expired_nil :=
  fnT (T := T) (TU := TU) (Γ := []) T_ok (by rfl) (ctx_nil) Try.func21 rfl rfl rfl rfl (fun x => x.2.1) (fun _ => rfl)
    (.leaf)
    (trivial) (fun a => by kernel_rfl)

noncomputable def g_expiry_Queue_Len_nil : TFn := ⟨.cons (.c (.npt)) .nil, .nil, .cons (.c (.d (.int .i64))) .nil, Int, fun _ => F_expiry_Queue_Len_nil, fun r => ((), (r, ())), .none⟩
theorem ok_expiry_Queue_Len_nil : FnT Try.prog 24 g_expiry_Queue_Len_nil :=
  fnT (T := T) (TU := TU) (Γ := []) T_ok (by rfl) (ctx_nil) Try.func24 rfl rfl rfl rfl (fun x => x.2.1) (fun _ => rfl)
    (.leaf)
    (trivial) (fun a => by kernel_rfl)

noncomputable def g_mempoollaw18_ExpiryEdges : TFn := ⟨.cons (.c (.d (.int .i64))) (.cons (.c (.d (.int .i64))) .nil), .nil, .cons (.c (.d .bool)) .nil, Bool, fun a => F_mempoollaw18_ExpiryEdges a.1 a.2.1, fun r => ((), (r, ())), .none⟩
theorem ok_mempoollaw18_ExpiryEdges : FnT Try.prog 5 g_mempoollaw18_ExpiryEdges :=
  fnT (T := T) (TU := TU) (Γ := [(20, g_mempoolmake_Place), (17, g_expiry_New), (19, g_expiry_Queue_Add), (21, g_expiry_Queue_Expired), (23, g_mempoolref1_SameInts), (1000019, g_expiry_Queue_Add_nil), (1000026, g_expiry_Queue_Remove_nil), (1000021, g_expiry_Queue_Expired_nil), (1000024, g_expiry_Queue_Len_nil), (15, g_mempoollaw18_known)]) T_ok (by rfl) (ctx_cons ok_mempoolmake_Place (ctx_cons ok_expiry_New (ctx_cons ok_expiry_Queue_Add (ctx_cons ok_expiry_Queue_Expired (ctx_cons ok_mempoolref1_SameInts (ctx_cons ok_expiry_Queue_Add_nil (ctx_cons ok_expiry_Queue_Remove_nil (ctx_cons ok_expiry_Queue_Expired_nil (ctx_cons ok_expiry_Queue_Len_nil (ctx_cons ok_mempoollaw18_known ctx_nil)))))))))) Try.func5 rfl rfl rfl rfl (fun x => x.2.1) (fun _ => rfl)
    (.leaf)
    (trivial) (fun a => by kernel_rfl)

end Go.Proofs.Ytaminglbenglfaa.Am
