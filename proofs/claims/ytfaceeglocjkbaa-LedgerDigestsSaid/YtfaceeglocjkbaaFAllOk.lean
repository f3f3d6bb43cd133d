/- The functions compute it: by the typed machine. No conditions. -/
import Derived.Test.YtfaceeglocjkbaaFAll
import Derived.KernelRfl
namespace Go.Proofs.Ytfaceeglocjkbaa.Am
open Go
set_option maxRecDepth 100000
noncomputable def g_mempoollaw11_long : TFn := ⟨.cons (.c (.d (.sl (.sl (.int .i64))))) .nil, .nil, .cons (.c (.d .bool)) .nil, Bool, fun a => F_mempoollaw11_long a.1, fun r => ((), (r, ())), .none⟩
theorem ok_mempoollaw11_long : FnT Try.prog 9 g_mempoollaw11_long :=
  fnT (T := T) (TU := TU) (Γ := []) T_ok (by rfl) (ctx_nil) Try.func9 rfl rfl rfl rfl (fun x => x.2.1) (fun _ => rfl)
    (.two .leaf (.two .leaf (.two (.two .leaf (.one (.loop ⟨19, [(3, .one (.d (.int .i64))), (6, .one (.d (.sl (.sl (.int .i64))))), (7, .one (.d (.int .i64))), (8, .one (.d (.int .i64)))], [], []⟩ ⟨fun x => (x.1.1.1, x.1.2.1.1, x.1.2.2.1.1, x.1.2.2.2.1.1), fun v => (((v.1, ()), ((v.2.1, ()), ((v.2.2.1, ()), ((v.2.2.2, ()), ())))), (), ()), fun _ => rfl⟩ (fun v => F_mempoollaw11_long_l1 v.1 v.2.1 v.2.2.1 v.2.2.2) .leaf))) .leaf)))
    (⟨trivial, ⟨trivial, ⟨⟨trivial, ⟨trivial, fun v => by kernel_rfl⟩⟩, trivial⟩⟩⟩) (fun a => by kernel_rfl)

noncomputable def g_mempoollaw11_big : TFn := ⟨.cons (.c (.d (.sl U_api_Account))) .nil, .nil, .cons (.c (.d .bool)) .nil, Bool, fun a => F_mempoollaw11_big a.1, fun r => ((), (r, ())), .none⟩
theorem ok_mempoollaw11_big : FnT Try.prog 10 g_mempoollaw11_big :=
  fnT (T := T) (TU := TU) (Γ := []) T_ok (by rfl) (ctx_nil) Try.func10 rfl rfl rfl rfl (fun x => x.2.1) (fun _ => rfl)
    (.two .leaf (.two .leaf (.two (.two .leaf (.one (.loop ⟨22, [(3, .one (.d (.int .i64))), (8, .one (.d (.sl U_api_Account))), (9, .one (.d (.int .i64))), (10, .one (.d (.int .i64)))], [], []⟩ ⟨fun x => (x.1.1.1, x.1.2.1.1, x.1.2.2.1.1, x.1.2.2.2.1.1), fun v => (((v.1, ()), ((v.2.1, ()), ((v.2.2.1, ()), ((v.2.2.2, ()), ())))), (), ()), fun _ => rfl⟩ (fun v => F_mempoollaw11_big_l1 v.1 v.2.1 v.2.2.1 v.2.2.2) .leaf))) .leaf)))
    (⟨trivial, ⟨trivial, ⟨⟨trivial, ⟨trivial, fun v => by kernel_rfl⟩⟩, trivial⟩⟩⟩) (fun a => by kernel_rfl)

noncomputable def g_tx_IsName : TFn := ⟨.cons (.c (.d .str)) .nil, .nil, .cons (.c (.d .bool)) .nil, Bool, fun a => F_tx_IsName a.1, fun r => ((), (r, ())), .none⟩
theorem ok_tx_IsName : FnT Try.prog 33 g_tx_IsName :=
  fnT (T := T) (TU := TU) (Γ := []) T_ok (by rfl) (ctx_nil) Try.func33 rfl rfl rfl rfl (fun x => x.2.1) (fun _ => rfl)
    (.two .leaf (.cut ⟨40, [(0, .one (.d .str))], [], []⟩ ⟨fun x => x.1.1.1, fun v => (((v, ()), ()), (), ()), fun _ => rfl⟩ (fun v => F_tx_IsName_c1 v) (.two .leaf (.one (.loop ⟨40, [(0, .one (.d .str)), (6, .one (.d (.int .i64))), (7, .one (.d (.int .i64)))], [], []⟩ ⟨fun x => (x.1.1.1, x.1.2.1.1, x.1.2.2.1.1), fun v => (((v.1, ()), ((v.2.1, ()), ((v.2.2, ()), ()))), (), ()), fun _ => rfl⟩ (fun v => F_tx_IsName_l2 v.1 v.2.1 v.2.2) .leaf))) .leaf))
    (⟨trivial, ⟨⟨trivial, ⟨trivial, fun v => by kernel_rfl⟩⟩, trivial, fun v => by kernel_rfl⟩⟩) (fun a => by kernel_rfl)

def g_slices_Clone_api_Account_api_Account : TFn := gClone 32 U_api_Account 28
theorem ok_slices_Clone_api_Account_api_Account : FnT Try.prog 49 g_slices_Clone_api_Account_api_Account := fnT_clone (T := T) (TU := TU) T_ok (by rfl) Try.underlying22 Try.func49 rfl rfl (of_decide_eq_true (by kernel_rfl)) (by rfl) (by rfl) (by rfl) (by rfl) (by rfl) (by rfl) (by rfl) (by rfl) (by rfl) (by kernel_rfl) (fun l => by kernel_rfl)

noncomputable def g_own_Ledger : TFn := ⟨.cons (.agg (.cons (.d U_api_Ledger) .nil)) .nil, .nil, .cons (.agg (.cons (.row U_api_Account 28) (.cons (.d (.int .u64)) .nil))) .nil, List D_api_Account × Int, fun a => F_own_Ledger a.1.1, fun r => ((), ((r.1, (r.2, ())), ())), .none⟩
theorem ok_own_Ledger : FnT Try.prog 35 g_own_Ledger :=
  fnT (T := T) (TU := TU) (Γ := [(49, g_slices_Clone_api_Account_api_Account)]) T_ok (by rfl) (ctx_cons ok_slices_Clone_api_Account_api_Account ctx_nil) Try.func35 rfl rfl rfl rfl (fun x => (x.2.1.1, x.2.1.2.1)) (fun _ => rfl)
    (.leaf)
    (trivial) (fun a => by kernel_rfl)


noncomputable def g_money_Sum : TFn := ⟨.cons (.c (.d (.sl (.int .u64)))) .nil, .nil, .cons (.c (.d (.int .u64))) (.cons (.c (.d .bool)) .nil), Int × Bool, fun a => F_money_Sum a.1, fun r => ((), (r.1, (r.2, ()))), .none⟩
theorem ok_money_Sum : FnT Try.prog 31 g_money_Sum :=
  fnT (T := T) (TU := TU) (Γ := [(48, g_money_Add)]) T_ok (by rfl) (ctx_cons ok_money_Add ctx_nil) Try.func31 rfl rfl rfl rfl (fun x => (x.2.1, x.2.2.1)) (fun _ => rfl)
    (.two .leaf (.two .leaf (.two (.two .leaf (.one (.loop ⟨26, [(4, .one (.d (.int .u64))), (9, .one (.d (.sl (.int .u64)))), (10, .one (.d (.int .i64))), (11, .one (.d (.int .i64)))], [], []⟩ ⟨fun x => (x.1.1.1, x.1.2.1.1, x.1.2.2.1.1, x.1.2.2.2.1.1), fun v => (((v.1, ()), ((v.2.1, ()), ((v.2.2.1, ()), ((v.2.2.2, ()), ())))), (), ()), fun _ => rfl⟩ (fun v => F_money_Sum_l1 v.1 v.2.1 v.2.2.1 v.2.2.2) .leaf))) .leaf)))
    (⟨trivial, ⟨trivial, ⟨⟨trivial, ⟨trivial, fun v => by kernel_rfl⟩⟩, trivial⟩⟩⟩) (fun a => by kernel_rfl)

noncomputable def g_ledger_Total : TFn := ⟨.cons (.agg (.cons (.d U_api_Ledger) .nil)) .nil, .nil, .cons (.c (.d (.int .u64))) (.cons (.c (.d .bool)) .nil), Int × Bool, fun a => F_ledger_Total a.1.1, fun r => ((), (r.1, (r.2, ()))), .none⟩
theorem ok_ledger_Total : FnT Try.prog 14 g_ledger_Total :=
  fnT (T := T) (TU := TU) (Γ := [(31, g_money_Sum)]) T_ok (by rfl) (ctx_cons ok_money_Sum ctx_nil) Try.func14 rfl rfl rfl rfl (fun x => (x.2.1, x.2.2.1)) (fun _ => rfl)
    (.two .leaf (.two .leaf (.cut ⟨27, [(4, .one (.row 1000000))], [], [(1000000, (.int .u64), 23, false)]⟩ ⟨fun x => x.2.2.1, fun v => (((), ()), (), (v, ())), fun _ => rfl⟩ (fun v => F_ledger_Total_c1 v) (.two .leaf (.one (.loop ⟨27, [(4, .one (.row 1000000)), (11, .one (.d (.sl U_api_Account))), (12, .one (.d (.int .i64))), (13, .one (.d (.int .i64)))], [], [(1000000, (.int .u64), 23, false)]⟩ ⟨fun x => (x.1.2.1.1, x.1.2.2.1.1, x.1.2.2.2.1.1, x.2.2.1), fun v => (((), ((v.1, ()), ((v.2.1, ()), ((v.2.2.1, ()), ())))), (), (v.2.2.2, ())), fun _ => rfl⟩ (fun v => F_ledger_Total_l2 v.1 v.2.1 v.2.2.1 v.2.2.2) .leaf))) .leaf)))
    (⟨trivial, ⟨trivial, ⟨⟨trivial, ⟨trivial, fun v => by kernel_rfl⟩⟩, trivial, fun v => by kernel_rfl⟩⟩⟩) (fun a => by kernel_rfl)

def g_slices_SortFunc_api_Account_api_Account_of_ledger_Genesis_1 : TFn := gSort U_api_Account 28 37 cfAcc
theorem ok_slices_SortFunc_api_Account_api_Account_of_ledger_Genesis_1 : FnT Try.prog 36 g_slices_SortFunc_api_Account_api_Account_of_ledger_Genesis_1 := sort_accounts

noncomputable def g_ledger_Genesis : TFn := ⟨.cons (.c (.d (.sl U_api_Account))) .nil, .nil, .cons (.agg (.cons (.d U_api_Ledger) .nil)) (.cons (.c (.d (.int .i64))) .nil), D_api_Ledger × Int, fun a => F_ledger_Genesis a.1, fun r => ((), ((r.1, ()), (r.2, ()))), .none⟩
theorem ok_ledger_Genesis : FnT Try.prog 18 g_ledger_Genesis :=
  fnT (T := T) (TU := TU) (Γ := [(33, g_tx_IsName), (35, g_own_Ledger), (14, g_ledger_Total), (36, g_slices_SortFunc_api_Account_api_Account_of_ledger_Genesis_1)]) T_ok (by rfl) (ctx_cons ok_tx_IsName (ctx_cons ok_own_Ledger (ctx_cons ok_ledger_Total (ctx_cons ok_slices_SortFunc_api_Account_api_Account_of_ledger_Genesis_1 ctx_nil)))) Try.func18 rfl rfl rfl rfl (fun x => (x.2.1.1, x.2.2.1)) (fun _ => rfl)
    (.two .leaf (.two .leaf (.two .leaf (.cut ⟨57, [(0, .one (.d (.sl U_api_Account))), (2, .one (.ptr 1000000 0))], [(1000000, [.d U_api_Ledger])], []⟩ ⟨fun x => (x.1.1.1, x.2.1.1.1), fun v => (((v.1, ()), ((), ())), ((v.2, ()), ()), ()), fun _ => rfl⟩ (fun v => F_ledger_Genesis_c1 v.1 v.2) (.two .leaf (.one (.loop ⟨57, [(0, .one (.d (.sl U_api_Account))), (2, .one (.ptr 1000000 0)), (4, .one (.row 1000000)), (17, .one (.d (.sl U_api_Account))), (18, .one (.d (.int .i64))), (19, .one (.d (.int .i64)))], [(1000000, [.d U_api_Ledger])], [(1000000, (.pr .str (.arr 0 .byte)), 4000005, false)]⟩ ⟨fun x => (x.1.1.1, x.1.2.2.2.1.1, x.1.2.2.2.2.1.1, x.1.2.2.2.2.2.1.1, x.2.1.1.1, x.2.2.1), fun v => (((v.1, ()), ((), ((), ((v.2.1, ()), ((v.2.2.1, ()), ((v.2.2.2.1, ()), ())))))), ((v.2.2.2.2.1, ()), ()), (v.2.2.2.2.2, ())), fun _ => rfl⟩ (fun v => F_ledger_Genesis_l2 v.1 v.2.1 v.2.2.1 v.2.2.2.1 v.2.2.2.2.1 v.2.2.2.2.2) .leaf))) .leaf))))
    (⟨trivial, ⟨trivial, ⟨trivial, ⟨⟨trivial, ⟨trivial, fun v => by kernel_rfl⟩⟩, trivial, fun v => by kernel_rfl⟩⟩⟩⟩) (fun a => by kernel_rfl)

noncomputable def g_ledger_Validate : TFn := ⟨.cons (.agg (.cons (.d U_api_Ledger) .nil)) .nil, .nil, .cons (.c (.d (.int .i64))) .nil, Int, fun a => F_ledger_Validate a.1.1, fun r => ((), (r, ())), .none⟩
theorem ok_ledger_Validate : FnT Try.prog 16 g_ledger_Validate :=
  fnT (T := T) (TU := TU) (Γ := [(33, g_tx_IsName), (14, g_ledger_Total)]) T_ok (by rfl) (ctx_cons ok_tx_IsName (ctx_cons ok_ledger_Total ctx_nil)) Try.func16 rfl rfl rfl rfl (fun x => x.2.1) (fun _ => rfl)
    (.two .leaf (.two .leaf (.cut ⟨62, [(1, .one (.ptr 1000000 0))], [(1000000, [.d U_api_Ledger])], []⟩ ⟨fun x => x.2.1.1.1, fun v => (((), ()), ((v, ()), ()), ()), fun _ => rfl⟩ (fun v => F_ledger_Validate_c1 v) (.two .leaf (.one (.loop ⟨62, [(1, .one (.ptr 1000000 0)), (12, .one (.d (.sl U_api_Account))), (13, .one (.d (.int .i64))), (14, .one (.d (.int .i64)))], [(1000000, [.d U_api_Ledger])], []⟩ ⟨fun x => (x.1.2.1.1, x.1.2.2.1.1, x.1.2.2.2.1.1, x.2.1.1.1), fun v => (((), ((v.1, ()), ((v.2.1, ()), ((v.2.2.1, ()), ())))), ((v.2.2.2, ()), ()), ()), fun _ => rfl⟩ (fun v => F_ledger_Validate_l2 v.1 v.2.1 v.2.2.1 v.2.2.2) (.two .leaf (.two .leaf (.two (.one (.two .leaf (.one (.two .leaf (.two .leaf (.cut ⟨62, [(1, .one (.ptr 1000000 0)), (3, .one (.d (.int .i64))), (4, .one (.ptr 1000001 0)), (12, .one (.d (.sl U_api_Account))), (13, .one (.d (.int .i64))), (14, .one (.d (.int .i64))), (24, .one (.d .bool))], [(1000000, [.d U_api_Ledger]), (1000001, [.d U_api_Account])], []⟩ ⟨fun x => (x.1.2.1.1, x.1.2.2.2.1.1, x.1.2.2.2.2.1.1, x.1.2.2.2.2.2.1.1, x.1.2.2.2.2.2.2.1.1, x.2.1.1.1, x.2.1.2.1.1), fun v => (((), ((v.1, ()), ((), ((v.2.1, ()), ((v.2.2.1, ()), ((v.2.2.2.1, ()), ((v.2.2.2.2.1, ()), ()))))))), ((v.2.2.2.2.2.1, ()), ((v.2.2.2.2.2.2, ()), ())), ()), fun _ => rfl⟩ (fun v => F_ledger_Validate_c3 v.1 v.2.1 v.2.2.1 v.2.2.2.1 v.2.2.2.2.1 v.2.2.2.2.2.1 v.2.2.2.2.2.2) .leaf .leaf)))))) .leaf)))))) .leaf)))
    (⟨trivial, ⟨trivial, ⟨⟨trivial, ⟨⟨trivial, ⟨trivial, ⟨⟨trivial, ⟨trivial, ⟨trivial, ⟨trivial, trivial, fun v => by kernel_rfl⟩⟩⟩⟩, trivial⟩⟩⟩, fun v => by kernel_rfl⟩⟩, trivial, fun v => by kernel_rfl⟩⟩⟩) (fun a => by kernel_rfl)

noncomputable def g_cmp_isNaN_string : TFn := ⟨.cons (.c (.d .str)) .nil, .nil, .cons (.c (.d .bool)) .nil, Bool, fun a => F_cmp_isNaN_string a.1, fun r => ((), (r, ())), .none⟩
theorem ok_cmp_isNaN_string : FnT Try.prog 52 g_cmp_isNaN_string :=
  fnT (T := T) (TU := TU) (Γ := []) T_ok (by rfl) (ctx_nil) Try.func52 rfl rfl rfl rfl (fun x => x.2.1) (fun _ => rfl)
    (.leaf)
    (trivial) (fun a => by kernel_rfl)

noncomputable def g_cmp_Compare_string : TFn := ⟨.cons (.c (.d .str)) (.cons (.c (.d .str)) .nil), .nil, .cons (.c (.d (.int .i64))) .nil, Int, fun a => F_cmp_Compare_string a.1 a.2.1, fun r => ((), (r, ())), .none⟩
theorem ok_cmp_Compare_string : FnT Try.prog 38 g_cmp_Compare_string :=
  fnT (T := T) (TU := TU) (Γ := [(52, g_cmp_isNaN_string)]) T_ok (by rfl) (ctx_cons ok_cmp_isNaN_string ctx_nil) Try.func38 rfl rfl rfl rfl (fun x => x.2.1) (fun _ => rfl)
    (.leaf)
    (trivial) (fun a => by kernel_rfl)

noncomputable def g_ledger_Set_1 : TFn := ⟨.cons (.agg (.cons (.d U_api_Account) .nil)) (.cons (.c (.d .str)) .nil), .nil, .cons (.c (.d (.int .i64))) .nil, Int, fun a => F_ledger_Set_1 a.1.1 a.2.1, fun r => ((), (r, ())), .none⟩
theorem ok_ledger_Set_1 : FnT Try.prog 42 g_ledger_Set_1 :=
  fnT (T := T) (TU := TU) (Γ := [(38, g_cmp_Compare_string)]) T_ok (by rfl) (ctx_cons ok_cmp_Compare_string ctx_nil) Try.func42 rfl rfl rfl rfl (fun x => x.2.1) (fun _ => rfl)
    (.leaf)
    (trivial) (fun a => by kernel_rfl)

noncomputable def g_slices_BinarySearchFunc_api_Account_api_Account_string_of_ledger_Set_1 : TFn := ⟨.cons (.c (.d (.sl U_api_Account))) (.cons (.c (.d .str)) (.cons (.c (.fn 42)) .nil)), .nil, .cons (.c (.d (.int .i64))) (.cons (.c (.d .bool)) .nil), Int × Bool, fun a => F_slices_BinarySearchFunc_api_Account_api_Account_string_of_ledger_Set_1 a.1 a.2.1, fun r => ((), (r.1, (r.2, ()))), .none⟩
theorem ok_slices_BinarySearchFunc_api_Account_api_Account_string_of_ledger_Set_1 : FnT Try.prog 41 g_slices_BinarySearchFunc_api_Account_api_Account_string_of_ledger_Set_1 :=
  fnT (T := T) (TU := TU) (Γ := [(42, g_ledger_Set_1)]) T_ok (by rfl) (ctx_cons ok_ledger_Set_1 ctx_nil) Try.func41 rfl rfl rfl rfl (fun x => (x.2.1, x.2.2.1)) (fun _ => rfl)
    (.two .leaf (.two .leaf (.two .leaf (.cut ⟨49, [(0, .one (.d (.sl U_api_Account))), (1, .one (.d .str)), (2, .one (.fn 42)), (8, .one (.d (.int .i64))), (9, .one (.d (.int .i64)))], [], []⟩ ⟨fun x => (x.1.1.1, x.1.2.1.1, x.1.2.2.2.1.1, x.1.2.2.2.2.1.1), fun v => (((v.1, ()), ((v.2.1, ()), ((), ((v.2.2.1, ()), ((v.2.2.2, ()), ()))))), (), ()), fun _ => rfl⟩ (fun v => F_slices_BinarySearchFunc_api_Account_api_Account_string_of_ledger_Set_1_c1 v.1 v.2.1 v.2.2.1 v.2.2.2) (.one (.loop ⟨49, [(0, .one (.d (.sl U_api_Account))), (1, .one (.d .str)), (2, .one (.fn 42)), (8, .one (.d (.int .i64))), (9, .one (.d (.int .i64))), (10, .one (.d (.int .i64)))], [], []⟩ ⟨fun x => (x.1.1.1, x.1.2.1.1, x.1.2.2.2.1.1, x.1.2.2.2.2.1.1, x.1.2.2.2.2.2.1.1), fun v => (((v.1, ()), ((v.2.1, ()), ((), ((v.2.2.1, ()), ((v.2.2.2.1, ()), ((v.2.2.2.2, ()), ())))))), (), ()), fun _ => rfl⟩ (fun v => F_slices_BinarySearchFunc_api_Account_api_Account_string_of_ledger_Set_1_l2 v.1 v.2.1 v.2.2.1 v.2.2.2.1 v.2.2.2.2) .leaf)) .leaf))))
    (⟨trivial, ⟨trivial, ⟨trivial, ⟨⟨trivial, fun v => by kernel_rfl⟩, trivial, fun v => by kernel_rfl⟩⟩⟩⟩) (fun a => by kernel_rfl)

def g_slices_Insert_api_Account_api_Account : TFn := gInsert U_api_Account 28
theorem ok_slices_Insert_api_Account_api_Account : FnT Try.prog 43 g_slices_Insert_api_Account_api_Account := fnT_insert (by kernel_rfl) (by kernel_rfl)

noncomputable def g_ledger_Set : TFn := ⟨.cons (.agg (.cons (.d U_api_Ledger) .nil)) (.cons (.agg (.cons (.d U_api_Account) .nil)) .nil), .nil, .cons (.agg (.cons (.d U_api_Ledger) .nil)) (.cons (.c (.d (.int .i64))) .nil), D_api_Ledger × Int, fun a => F_ledger_Set a.1.1 a.2.1.1, fun r => ((), ((r.1, ()), (r.2, ()))), .none⟩
theorem ok_ledger_Set : FnT Try.prog 21 g_ledger_Set :=
  fnT (T := T) (TU := TU) (Γ := [(16, g_ledger_Validate), (33, g_tx_IsName), (41, g_slices_BinarySearchFunc_api_Account_api_Account_string_of_ledger_Set_1), (35, g_own_Ledger), (43, g_slices_Insert_api_Account_api_Account), (14, g_ledger_Total)]) T_ok (by rfl) (ctx_cons ok_ledger_Validate (ctx_cons ok_tx_IsName (ctx_cons ok_slices_BinarySearchFunc_api_Account_api_Account_string_of_ledger_Set_1 (ctx_cons ok_own_Ledger (ctx_cons ok_slices_Insert_api_Account_api_Account (ctx_cons ok_ledger_Total ctx_nil)))))) Try.func21 rfl rfl rfl rfl (fun x => (x.2.1.1, x.2.2.1)) (fun _ => rfl)
    (.two .leaf (.two .leaf (.two .leaf (.two .leaf (.cut ⟨64, [(2, .one (.ptr 1000000 0)), (3, .one (.ptr 1000001 0)), (4, .one (.ptr 1000002 0)), (7, .one (.d (.int .i64))), (8, .one (.d .bool))], [(1000000, [.d U_api_Ledger]), (1000001, [.d U_api_Account]), (1000002, [.d U_api_Ledger])], []⟩ ⟨fun x => (x.1.2.2.2.1.1, x.1.2.2.2.2.1.1, x.2.1.1.1, x.2.1.2.1.1, x.2.1.2.2.1.1), fun v => (((), ((), ((), ((v.1, ()), ((v.2.1, ()), ()))))), ((v.2.2.1, ()), ((v.2.2.2.1, ()), ((v.2.2.2.2, ()), ()))), ()), fun _ => rfl⟩ (fun v => F_ledger_Set_c1 v.1 v.2.1 v.2.2.1 v.2.2.2.1 v.2.2.2.2) .leaf (.two .leaf (.cut ⟨64, [(4, .one (.ptr 1000000 0)), (9, .one (.ptr 1000001 0))], [(1000000, [.d U_api_Ledger]), (1000001, [.row 1000000, .d (.int .u64)])], [(1000000, U_api_Account, 28, false)]⟩ ⟨fun x => (x.2.1.1.1, x.2.1.2.1.1, x.2.2.1), fun v => (((), ((), ())), ((v.1, ()), ((v.2.1, ()), ())), (v.2.2, ())), fun _ => rfl⟩ (fun v => F_ledger_Set_c2 v.1 v.2.1 v.2.2) .leaf .leaf)))))))
    (⟨trivial, ⟨trivial, ⟨trivial, ⟨trivial, ⟨trivial, ⟨trivial, ⟨trivial, trivial, fun v => by kernel_rfl⟩⟩, fun v => by kernel_rfl⟩⟩⟩⟩⟩) (fun a => by kernel_rfl)

noncomputable def g_ledger_Get : TFn := ⟨.cons (.agg (.cons (.d U_api_Ledger) .nil)) (.cons (.c (.d .str)) .nil), .nil, .cons (.agg (.cons (.d U_api_Account) .nil)) (.cons (.c (.d .bool)) .nil), D_api_Account × Bool, fun a => F_ledger_Get a.1.1 a.2.1, fun r => ((), ((r.1, ()), (r.2, ()))), .none⟩
theorem ok_ledger_Get : FnT Try.prog 23 g_ledger_Get :=
  fnT (T := T) (TU := TU) (Γ := []) T_ok (by rfl) (ctx_nil) Try.func23 rfl rfl rfl rfl (fun x => (x.2.1.1, x.2.2.1)) (fun _ => rfl)
    (.two .leaf (.two (.two .leaf (.one (.loop ⟨22, [(1, .one (.d .str)), (4, .one (.ptr 1000000 0)), (9, .one (.d (.sl U_api_Account))), (10, .one (.d (.int .i64))), (11, .one (.d (.int .i64)))], [(1000000, [.d U_api_Account])], []⟩ ⟨fun x => (x.1.1.1, x.1.2.2.1.1, x.1.2.2.2.1.1, x.1.2.2.2.2.1.1, x.2.1.1.1), fun v => (((v.1, ()), ((), ((v.2.1, ()), ((v.2.2.1, ()), ((v.2.2.2.1, ()), ()))))), ((v.2.2.2.2, ()), ()), ()), fun _ => rfl⟩ (fun v => F_ledger_Get_l1 v.1 v.2.1 v.2.2.1 v.2.2.2.1 v.2.2.2.2) .leaf))) .leaf))
    (⟨trivial, ⟨⟨trivial, ⟨trivial, fun v => by kernel_rfl⟩⟩, trivial⟩⟩) (fun a => by kernel_rfl)

noncomputable def g_mempoollaw11_known : TFn := ⟨.nil, .nil, .cons (.c (.d .bool)) .nil, Bool, fun _ => F_mempoollaw11_known, fun r => ((), (r, ())), .none⟩
theorem ok_mempoollaw11_known : FnT Try.prog 11 g_mempoollaw11_known :=
  fnT (T := T) (TU := TU) (Γ := [(18, g_ledger_Genesis), (21, g_ledger_Set), (14, g_ledger_Total), (23, g_ledger_Get), (16, g_ledger_Validate)]) T_ok (by rfl) (ctx_cons ok_ledger_Genesis (ctx_cons ok_ledger_Set (ctx_cons ok_ledger_Total (ctx_cons ok_ledger_Get (ctx_cons ok_ledger_Validate ctx_nil))))) Try.func11 rfl rfl rfl rfl (fun x => x.2.1) (fun _ => rfl)
    (.leaf)
    (trivial) (fun a => by kernel_rfl)

noncomputable def g_mempoolmake_From : TFn := ⟨.cons (.c (.d (.sl (.int .i64)))) .nil, .nil, .cons (.c (.box (.cons (.d U_mempoolmake_Numbers) .nil))) .nil, D_mempoolmake_Numbers, fun a => F_mempoolmake_From a.1, fun r => ((), ((r, ()), ())), .none⟩
theorem ok_mempoolmake_From : FnT Try.prog 27 g_mempoolmake_From :=
  fnT (T := T) (TU := TU) (Γ := []) T_ok (by rfl) (ctx_nil) Try.func27 rfl rfl rfl rfl (fun x => x.2.1.1) (fun _ => rfl)
    (.leaf)
    (trivial) (fun a => by kernel_rfl)

noncomputable def g_mempoolmake_Place : TFn := ⟨.cons (.c (.d (.int .i64))) (.cons (.c (.d (.int .i64))) .nil), .nil, .cons (.c (.d (.int .i64))) .nil, Int, fun a => F_mempoolmake_Place a.1 a.2.1, fun r => ((), (r, ())), .none⟩
theorem ok_mempoolmake_Place : FnT Try.prog 13 g_mempoolmake_Place :=
  fnT (T := T) (TU := TU) (Γ := []) T_ok (by rfl) (ctx_nil) Try.func13 rfl rfl rfl rfl (fun x => x.2.1) (fun _ => rfl)
    (.leaf)
    (trivial) (fun a => by kernel_rfl)

noncomputable def g_mempoolmake_Numbers_Next : TFn := ⟨.cons (.bx (.cons (.d U_mempoolmake_Numbers) .nil)) (.cons (.c (.d (.int .i64))) .nil), .cons (.cons (.d U_mempoolmake_Numbers) .nil) .nil, .cons (.c (.d (.int .i64))) .nil, D_mempoolmake_Numbers × Int, fun a => F_mempoolmake_Numbers_Next a.1.1 a.2.1, fun r => (((r.1, ()), ()), (r.2, ())), .none⟩
theorem ok_mempoolmake_Numbers_Next : FnT Try.prog 29 g_mempoolmake_Numbers_Next :=
  fnT (T := T) (TU := TU) (Γ := [(13, g_mempoolmake_Place)]) T_ok (by rfl) (ctx_cons ok_mempoolmake_Place ctx_nil) Try.func29 rfl rfl rfl rfl (fun x => (x.1.1.1, x.2.1)) (fun _ => rfl)
    (.two .leaf (.two .leaf (.cut ⟨36, [(0, .one (.ptr 1000000 0)), (1, .one (.d (.int .i64))), (5, .one (.d (.int .i64))), (36, .one (.ptr 1000000 0))], [(1000000, [.d U_mempoolmake_Numbers])], []⟩ ⟨fun x => (x.1.2.1.1, x.1.2.2.1.1, x.2.1.1.1), fun v => (((), ((v.1, ()), ((v.2.1, ()), ((), ())))), ((v.2.2, ()), ()), ()), fun _ => rfl⟩ (fun v => F_mempoolmake_Numbers_Next_c1 v.1 v.2.1 v.2.2) .leaf .leaf)))
    (⟨trivial, ⟨trivial, ⟨trivial, trivial, fun v => by kernel_rfl⟩⟩⟩) (fun a => by kernel_rfl)

noncomputable def g_mempoolmake_Accounts : TFn := ⟨.cons (.bx (.cons (.d U_mempoolmake_Numbers) .nil)) .nil, .cons (.cons (.d U_mempoolmake_Numbers) .nil) .nil, .cons (.c (.row U_api_Account 28)) .nil, D_mempoolmake_Numbers × List D_api_Account, fun a => F_mempoolmake_Accounts a.1.1, fun r => (((r.1, ()), ()), (r.2, ())), .none⟩
theorem ok_mempoolmake_Accounts : FnT Try.prog 28 g_mempoolmake_Accounts :=
  fnT (T := T) (TU := TU) (Γ := [(29, g_mempoolmake_Numbers_Next)]) T_ok (by rfl) (ctx_cons ok_mempoolmake_Numbers_Next ctx_nil) Try.func28 rfl rfl rfl rfl (fun x => (x.1.1.1, x.2.1)) (fun _ => rfl)
    (.two .leaf (.two .leaf (.two (.two .leaf (.one (.loop ⟨36, [(0, .one (.ptr 1000000 0)), (3, .one (.row 1000000)), (4, .one (.d (.int .i64))), (36, .one (.ptr 1000000 0))], [(1000000, [.d U_mempoolmake_Numbers])], [(1000000, U_api_Account, 28, false)]⟩ ⟨fun x => (x.1.2.2.1.1, x.2.1.1.1, x.2.2.1), fun v => (((), ((), ((v.1, ()), ((), ())))), ((v.2.1, ()), ()), (v.2.2, ())), fun _ => rfl⟩ (fun v => F_mempoolmake_Accounts_l1 v.1 v.2.1 v.2.2) .leaf))) .leaf)))
    (⟨trivial, ⟨trivial, ⟨⟨trivial, ⟨trivial, fun v => by kernel_rfl⟩⟩, trivial⟩⟩⟩) (fun a => by kernel_rfl)

noncomputable def g_mempoolref10_IsName : TFn := ⟨.cons (.c (.d .str)) .nil, .nil, .cons (.c (.d .bool)) .nil, Bool, fun a => F_mempoolref10_IsName a.1, fun r => ((), (r, ())), .none⟩
theorem ok_mempoolref10_IsName : FnT Try.prog 34 g_mempoolref10_IsName :=
  fnT (T := T) (TU := TU) (Γ := []) T_ok (by rfl) (ctx_nil) Try.func34 rfl rfl rfl rfl (fun x => x.2.1) (fun _ => rfl)
    (.two .leaf (.cut ⟨41, [(0, .one (.d .str))], [], []⟩ ⟨fun x => x.1.1.1, fun v => (((v, ()), ()), (), ()), fun _ => rfl⟩ (fun v => F_mempoolref10_IsName_c1 v) (.two .leaf (.one (.loop ⟨41, [(0, .one (.d .str)), (3, .one (.d (.int .i64)))], [], []⟩ ⟨fun x => (x.1.1.1, x.1.2.1.1), fun v => (((v.1, ()), ((v.2, ()), ())), (), ()), fun _ => rfl⟩ (fun v => F_mempoolref10_IsName_l2 v.1 v.2) .leaf))) .leaf))
    (⟨trivial, ⟨⟨trivial, ⟨trivial, fun v => by kernel_rfl⟩⟩, trivial, fun v => by kernel_rfl⟩⟩) (fun a => by kernel_rfl)

noncomputable def g_mempoolref10_Find : TFn := ⟨.cons (.c (.d (.sl U_api_Account))) (.cons (.c (.d .str)) .nil), .nil, .cons (.c (.d (.int .i64))) .nil, Int, fun a => F_mempoolref10_Find a.1 a.2.1, fun r => ((), (r, ())), .none⟩
theorem ok_mempoolref10_Find : FnT Try.prog 39 g_mempoolref10_Find :=
  fnT (T := T) (TU := TU) (Γ := []) T_ok (by rfl) (ctx_nil) Try.func39 rfl rfl rfl rfl (fun x => x.2.1) (fun _ => rfl)
    (.two .leaf (.two (.two .leaf (.one (.loop ⟨20, [(1, .one (.d .str)), (7, .one (.d (.sl U_api_Account))), (8, .one (.d (.int .i64))), (9, .one (.d (.int .i64)))], [], []⟩ ⟨fun x => (x.1.1.1, x.1.2.1.1, x.1.2.2.1.1, x.1.2.2.2.1.1), fun v => (((v.1, ()), ((v.2.1, ()), ((v.2.2.1, ()), ((v.2.2.2, ()), ())))), (), ()), fun _ => rfl⟩ (fun v => F_mempoolref10_Find_l1 v.1 v.2.1 v.2.2.1 v.2.2.2) .leaf))) .leaf))
    (⟨trivial, ⟨⟨trivial, ⟨trivial, fun v => by kernel_rfl⟩⟩, trivial⟩⟩) (fun a => by kernel_rfl)

noncomputable def g_mempoolref10_Put : TFn := ⟨.cons (.c (.d (.sl U_api_Account))) (.cons (.agg (.cons (.d U_api_Account) .nil)) .nil), .nil, .cons (.c (.row U_api_Account 28)) .nil, List D_api_Account, fun a => F_mempoolref10_Put a.1 a.2.1.1, fun r => ((), (r, ())), .none⟩
theorem ok_mempoolref10_Put : FnT Try.prog 40 g_mempoolref10_Put :=
  fnT (T := T) (TU := TU) (Γ := [(39, g_mempoolref10_Find)]) T_ok (by rfl) (ctx_cons ok_mempoolref10_Find ctx_nil) Try.func40 rfl rfl rfl rfl (fun x => x.2.1) (fun _ => rfl)
    (.two .leaf (.two .leaf (.two .leaf (.cut ⟨50, [(0, .one (.d (.sl U_api_Account))), (3, .one (.ptr 1000000 0)), (7, .one (.d (.int .i64)))], [(1000000, [.d U_api_Account])], []⟩ ⟨fun x => (x.1.1.1, x.1.2.2.1.1, x.2.1.1.1), fun v => (((v.1, ()), ((), ((v.2.1, ()), ()))), ((v.2.2, ()), ()), ()), fun _ => rfl⟩ (fun v => F_mempoolref10_Put_c1 v.1 v.2.1 v.2.2) (.one (.loop ⟨50, [(0, .one (.d (.sl U_api_Account))), (3, .one (.ptr 1000000 0)), (7, .one (.d (.int .i64)))], [(1000000, [.d U_api_Account])], []⟩ ⟨fun x => (x.1.1.1, x.1.2.2.1.1, x.2.1.1.1), fun v => (((v.1, ()), ((), ((v.2.1, ()), ()))), ((v.2.2, ()), ()), ()), fun _ => rfl⟩ (fun v => F_mempoolref10_Put_l2 v.1 v.2.1 v.2.2) .leaf)) .leaf))))
    (⟨trivial, ⟨trivial, ⟨trivial, ⟨⟨trivial, fun v => by kernel_rfl⟩, trivial, fun v => by kernel_rfl⟩⟩⟩⟩) (fun a => by kernel_rfl)

noncomputable def g_mempoolref1_Add : TFn := ⟨.cons (.c (.d (.int .u64))) (.cons (.c (.d (.int .u64))) .nil), .nil, .cons (.c (.d (.int .u64))) (.cons (.c (.d .bool)) .nil), Int × Bool, fun a => F_mempoolref1_Add a.1 a.2.1, fun r => ((), (r.1, (r.2, ()))), .none⟩
theorem ok_mempoolref1_Add : FnT Try.prog 32 g_mempoolref1_Add :=
  fnT (T := T) (TU := TU) (Γ := []) T_ok (by rfl) (ctx_nil) Try.func32 rfl rfl rfl rfl (fun x => (x.2.1, x.2.2.1)) (fun _ => rfl)
    (.leaf)
    (trivial) (fun a => by kernel_rfl)

noncomputable def g_mempoolref10_Total : TFn := ⟨.cons (.agg (.cons (.d U_api_Ledger) .nil)) .nil, .nil, .cons (.c (.d (.int .u64))) (.cons (.c (.d .bool)) .nil), Int × Bool, fun a => F_mempoolref10_Total a.1.1, fun r => ((), (r.1, (r.2, ()))), .none⟩
theorem ok_mempoolref10_Total : FnT Try.prog 15 g_mempoolref10_Total :=
  fnT (T := T) (TU := TU) (Γ := [(32, g_mempoolref1_Add)]) T_ok (by rfl) (ctx_cons ok_mempoolref1_Add ctx_nil) Try.func15 rfl rfl rfl rfl (fun x => (x.2.1, x.2.2.1)) (fun _ => rfl)
    (.two .leaf (.two .leaf (.two (.two .leaf (.one (.loop ⟨30, [(4, .one (.d (.int .u64))), (12, .one (.d (.sl U_api_Account))), (13, .one (.d (.int .i64))), (14, .one (.d (.int .i64)))], [], []⟩ ⟨fun x => (x.1.1.1, x.1.2.1.1, x.1.2.2.1.1, x.1.2.2.2.1.1), fun v => (((v.1, ()), ((v.2.1, ()), ((v.2.2.1, ()), ((v.2.2.2, ()), ())))), (), ()), fun _ => rfl⟩ (fun v => F_mempoolref10_Total_l1 v.1 v.2.1 v.2.2.1 v.2.2.2) .leaf))) .leaf)))
    (⟨trivial, ⟨trivial, ⟨⟨trivial, ⟨trivial, fun v => by kernel_rfl⟩⟩, trivial⟩⟩⟩) (fun a => by kernel_rfl)

noncomputable def g_mempoolref10_Genesis : TFn := ⟨.cons (.c (.d (.sl U_api_Account))) .nil, .nil, .cons (.agg (.cons (.d U_api_Ledger) .nil)) (.cons (.c (.d (.int .i64))) .nil), D_api_Ledger × Int, fun a => F_mempoolref10_Genesis a.1, fun r => ((), ((r.1, ()), (r.2, ()))), .none⟩
theorem ok_mempoolref10_Genesis : FnT Try.prog 19 g_mempoolref10_Genesis :=
  fnT (T := T) (TU := TU) (Γ := [(34, g_mempoolref10_IsName), (39, g_mempoolref10_Find), (40, g_mempoolref10_Put), (15, g_mempoolref10_Total)]) T_ok (by rfl) (ctx_cons ok_mempoolref10_IsName (ctx_cons ok_mempoolref10_Find (ctx_cons ok_mempoolref10_Put (ctx_cons ok_mempoolref10_Total ctx_nil)))) Try.func19 rfl rfl rfl rfl (fun x => (x.2.1.1, x.2.2.1)) (fun _ => rfl)
    (.two .leaf (.two .leaf (.two .leaf (.cut ⟨46, [(2, .one (.ptr 1000000 0)), (4, .one (.ptr 1000001 0))], [(1000000, [.d U_api_Ledger]), (1000001, [.row 1000000, .d (.int .u64)])], [(1000000, U_api_Account, 28, false)]⟩ ⟨fun x => (x.2.1.1.1, x.2.1.2.1.1, x.2.2.1), fun v => (((), ((), ())), ((v.1, ()), ((v.2.1, ()), ())), (v.2.2, ())), fun _ => rfl⟩ (fun v => F_mempoolref10_Genesis_c1 v.1 v.2.1 v.2.2) (.two .leaf (.one (.loop ⟨46, [(2, .one (.ptr 1000000 0)), (4, .one (.ptr 1000001 0)), (13, .one (.d (.sl U_api_Account))), (14, .one (.d (.int .i64))), (15, .one (.d (.int .i64)))], [(1000000, [.d U_api_Ledger]), (1000001, [.row 1000000, .d (.int .u64)])], [(1000000, U_api_Account, 28, false)]⟩ ⟨fun x => (x.1.2.2.1.1, x.1.2.2.2.1.1, x.1.2.2.2.2.1.1, x.2.1.1.1, x.2.1.2.1.1, x.2.2.1), fun v => (((), ((), ((v.1, ()), ((v.2.1, ()), ((v.2.2.1, ()), ()))))), ((v.2.2.2.1, ()), ((v.2.2.2.2.1, ()), ())), (v.2.2.2.2.2, ())), fun _ => rfl⟩ (fun v => F_mempoolref10_Genesis_l2 v.1 v.2.1 v.2.2.1 v.2.2.2.1 v.2.2.2.2.1 v.2.2.2.2.2) .leaf))) .leaf))))
    (⟨trivial, ⟨trivial, ⟨trivial, ⟨⟨trivial, ⟨trivial, fun v => by kernel_rfl⟩⟩, trivial, fun v => by kernel_rfl⟩⟩⟩⟩) (fun a => by kernel_rfl)

noncomputable def g_mempoolmake_Name : TFn := ⟨.cons (.bx (.cons (.d U_mempoolmake_Numbers) .nil)) .nil, .cons (.cons (.d U_mempoolmake_Numbers) .nil) .nil, .cons (.c (.d .str)) .nil, D_mempoolmake_Numbers × List UInt8, fun a => F_mempoolmake_Name a.1.1, fun r => (((r.1, ()), ()), (r.2, ())), .none⟩
theorem ok_mempoolmake_Name : FnT Try.prog 30 g_mempoolmake_Name :=
  fnT (T := T) (TU := TU) (Γ := [(29, g_mempoolmake_Numbers_Next)]) T_ok (by rfl) (ctx_cons ok_mempoolmake_Numbers_Next ctx_nil) Try.func30 rfl rfl rfl rfl (fun x => (x.1.1.1, x.2.1)) (fun _ => rfl)
    (.leaf)
    (trivial) (fun a => by kernel_rfl)

noncomputable def g_mempoolref10_ValidateLedger : TFn := ⟨.cons (.agg (.cons (.d U_api_Ledger) .nil)) .nil, .nil, .cons (.c (.d (.int .i64))) .nil, Int, fun a => F_mempoolref10_ValidateLedger a.1.1, fun r => ((), (r, ())), .none⟩
theorem ok_mempoolref10_ValidateLedger : FnT Try.prog 17 g_mempoolref10_ValidateLedger :=
  fnT (T := T) (TU := TU) (Γ := [(34, g_mempoolref10_IsName), (15, g_mempoolref10_Total)]) T_ok (by rfl) (ctx_cons ok_mempoolref10_IsName (ctx_cons ok_mempoolref10_Total ctx_nil)) Try.func17 rfl rfl rfl rfl (fun x => x.2.1) (fun _ => rfl)
    (.two .leaf (.two .leaf (.cut ⟨59, [(1, .one (.ptr 1000000 0))], [(1000000, [.d U_api_Ledger])], []⟩ ⟨fun x => x.2.1.1.1, fun v => (((), ()), ((v, ()), ()), ()), fun _ => rfl⟩ (fun v => F_mempoolref10_ValidateLedger_c1 v) (.two .leaf (.one (.loop ⟨59, [(1, .one (.ptr 1000000 0)), (12, .one (.d (.sl U_api_Account))), (13, .one (.d (.int .i64))), (14, .one (.d (.int .i64)))], [(1000000, [.d U_api_Ledger])], []⟩ ⟨fun x => (x.1.2.1.1, x.1.2.2.1.1, x.1.2.2.2.1.1, x.2.1.1.1), fun v => (((), ((v.1, ()), ((v.2.1, ()), ((v.2.2.1, ()), ())))), ((v.2.2.2, ()), ()), ()), fun _ => rfl⟩ (fun v => F_mempoolref10_ValidateLedger_l2 v.1 v.2.1 v.2.2.1 v.2.2.2) (.two .leaf (.two .leaf (.two (.one (.two .leaf (.two .leaf (.cut ⟨59, [(1, .one (.ptr 1000000 0)), (3, .one (.d (.int .i64))), (4, .one (.ptr 1000001 0)), (12, .one (.d (.sl U_api_Account))), (13, .one (.d (.int .i64))), (14, .one (.d (.int .i64)))], [(1000000, [.d U_api_Ledger]), (1000001, [.d U_api_Account])], []⟩ ⟨fun x => (x.1.2.1.1, x.1.2.2.2.1.1, x.1.2.2.2.2.1.1, x.1.2.2.2.2.2.1.1, x.2.1.1.1, x.2.1.2.1.1), fun v => (((), ((v.1, ()), ((), ((v.2.1, ()), ((v.2.2.1, ()), ((v.2.2.2.1, ()), ())))))), ((v.2.2.2.2.1, ()), ((v.2.2.2.2.2, ()), ())), ()), fun _ => rfl⟩ (fun v => F_mempoolref10_ValidateLedger_c3 v.1 v.2.1 v.2.2.1 v.2.2.2.1 v.2.2.2.2.1 v.2.2.2.2.2) .leaf .leaf)))) .leaf)))))) .leaf)))
    (⟨trivial, ⟨trivial, ⟨⟨trivial, ⟨⟨trivial, ⟨trivial, ⟨⟨trivial, ⟨trivial, ⟨trivial, trivial, fun v => by kernel_rfl⟩⟩⟩, trivial⟩⟩⟩, fun v => by kernel_rfl⟩⟩, trivial, fun v => by kernel_rfl⟩⟩⟩) (fun a => by kernel_rfl)

noncomputable def g_mempoolref10_Set : TFn := ⟨.cons (.agg (.cons (.d U_api_Ledger) .nil)) (.cons (.agg (.cons (.d U_api_Account) .nil)) .nil), .nil, .cons (.agg (.cons (.d U_api_Ledger) .nil)) (.cons (.c (.d (.int .i64))) .nil), D_api_Ledger × Int, fun a => F_mempoolref10_Set a.1.1 a.2.1.1, fun r => ((), ((r.1, ()), (r.2, ()))), .none⟩
theorem ok_mempoolref10_Set : FnT Try.prog 22 g_mempoolref10_Set :=
  fnT (T := T) (TU := TU) (Γ := [(17, g_mempoolref10_ValidateLedger), (34, g_mempoolref10_IsName), (40, g_mempoolref10_Put), (15, g_mempoolref10_Total)]) T_ok (by rfl) (ctx_cons ok_mempoolref10_ValidateLedger (ctx_cons ok_mempoolref10_IsName (ctx_cons ok_mempoolref10_Put (ctx_cons ok_mempoolref10_Total ctx_nil)))) Try.func22 rfl rfl rfl rfl (fun x => (x.2.1.1, x.2.2.1)) (fun _ => rfl)
    (.leaf)
    (trivial) (fun a => by kernel_rfl)

noncomputable def g_mempoollaw11_made : TFn := ⟨.cons (.c (.d (.sl (.int .i64)))) .nil, .nil, .cons (.agg (.cons (.d U_api_Ledger) .nil)) .nil, D_api_Ledger, fun a => F_mempoollaw11_made a.1, fun r => ((), ((r, ()), ())), .none⟩
theorem ok_mempoollaw11_made : FnT Try.prog 12 g_mempoollaw11_made :=
  fnT (T := T) (TU := TU) (Γ := [(27, g_mempoolmake_From), (28, g_mempoolmake_Accounts), (19, g_mempoolref10_Genesis), (29, g_mempoolmake_Numbers_Next), (30, g_mempoolmake_Name), (22, g_mempoolref10_Set)]) T_ok (by rfl) (ctx_cons ok_mempoolmake_From (ctx_cons ok_mempoolmake_Accounts (ctx_cons ok_mempoolref10_Genesis (ctx_cons ok_mempoolmake_Numbers_Next (ctx_cons ok_mempoolmake_Name (ctx_cons ok_mempoolref10_Set ctx_nil)))))) Try.func12 rfl rfl rfl rfl (fun x => x.2.1.1) (fun _ => rfl)
    (.two .leaf (.two .leaf (.two .leaf (.two .leaf (.two (.two .leaf (.one (.loop ⟨45, [(2, .one (.ptr 1000000 0)), (3, .one (.ptr 1000001 0)), (4, .one (.ptr 1000002 0)), (6, .one (.d (.int .i64)))], [(1000000, [.d U_api_Ledger]), (1000001, [.d U_mempoolmake_Numbers]), (1000002, [.d U_api_Ledger])], []⟩ ⟨fun x => (x.1.2.2.2.1.1, x.2.1.1.1, x.2.1.2.1.1, x.2.1.2.2.1.1), fun v => (((), ((), ((), ((v.1, ()), ())))), ((v.2.1, ()), ((v.2.2.1, ()), ((v.2.2.2, ()), ()))), ()), fun _ => rfl⟩ (fun v => F_mempoollaw11_made_l1 v.1 v.2.1 v.2.2.1 v.2.2.2) .leaf))) .leaf)))))
    (⟨trivial, ⟨trivial, ⟨trivial, ⟨trivial, ⟨⟨trivial, ⟨trivial, fun v => by kernel_rfl⟩⟩, trivial⟩⟩⟩⟩⟩) (fun a => by kernel_rfl)

noncomputable def g_mempoollaw11_LedgerValidates : TFn := ⟨.cons (.agg (.cons (.d U_api_Ledger) .nil)) (.cons (.c (.d (.sl (.int .i64)))) (.cons (.agg (.cons (.d U_api_Account) .nil)) (.cons (.c (.d (.int .i64))) (.cons (.c (.d (.int .i64))) .nil)))), .nil, .cons (.c (.d .bool)) .nil, Bool, fun a => F_mempoollaw11_LedgerValidates a.1.1 a.2.1 a.2.2.1.1 a.2.2.2.1 a.2.2.2.2.1, fun r => ((), (r, ())), .none⟩
theorem ok_mempoollaw11_LedgerValidates : FnT Try.prog 3 g_mempoollaw11_LedgerValidates :=
  fnT (T := T) (TU := TU) (Γ := [(9, g_mempoollaw11_long), (10, g_mempoollaw11_big), (11, g_mempoollaw11_known), (12, g_mempoollaw11_made), (13, g_mempoolmake_Place), (14, g_ledger_Total), (15, g_mempoolref10_Total), (16, g_ledger_Validate), (17, g_mempoolref10_ValidateLedger)]) T_ok (by rfl) (ctx_cons ok_mempoollaw11_long (ctx_cons ok_mempoollaw11_big (ctx_cons ok_mempoollaw11_known (ctx_cons ok_mempoollaw11_made (ctx_cons ok_mempoolmake_Place (ctx_cons ok_ledger_Total (ctx_cons ok_mempoolref10_Total (ctx_cons ok_ledger_Validate (ctx_cons ok_mempoolref10_ValidateLedger ctx_nil))))))))) Try.func3 rfl rfl rfl rfl (fun x => x.2.1) (fun _ => rfl)
    (.two .leaf (.two .leaf (.two .leaf (.two .leaf (.two .leaf (.cut ⟨142, [(5, .one (.ptr 1000000 0)), (11, .one (.ptr 1000001 0)), (12, .one (.ptr 1000002 0))], [(1000000, [.d U_api_Ledger]), (1000001, [.d U_api_Ledger]), (1000002, [.row 1000000, .d (.int .u64)])], [(1000000, U_api_Account, 28, false)]⟩ ⟨fun x => (x.2.1.1.1, x.2.1.2.1.1, x.2.1.2.2.1.1, x.2.2.1), fun v => (((), ((), ((), ()))), ((v.1, ()), ((v.2.1, ()), ((v.2.2.1, ()), ()))), (v.2.2.2, ())), fun _ => rfl⟩ (fun v => F_mempoollaw11_LedgerValidates_c1 v.1 v.2.1 v.2.2.1 v.2.2.2) (.two .leaf (.one (.two .leaf (.two .leaf (.two .leaf (.two .leaf (.two .leaf (.two .leaf (.one (.loop ⟨142, [(3, .one (.d (.int .i64))), (5, .one (.ptr 1000000 0)), (11, .one (.ptr 1000001 0)), (12, .one (.ptr 1000002 0)), (58, .one (.d (.sl U_api_Account))), (59, .one (.d (.int .i64))), (60, .one (.d (.int .i64)))], [(1000000, [.d U_api_Ledger]), (1000001, [.d U_api_Ledger]), (1000002, [.row 1000000, .d (.int .u64)])], [(1000000, U_api_Account, 28, false)]⟩ ⟨fun x => (x.1.1.1, x.1.2.2.2.2.1.1, x.1.2.2.2.2.2.1.1, x.1.2.2.2.2.2.2.1.1, x.2.1.1.1, x.2.1.2.1.1, x.2.1.2.2.1.1, x.2.2.1), fun v => (((v.1, ()), ((), ((), ((), ((v.2.1, ()), ((v.2.2.1, ()), ((v.2.2.2.1, ()), ()))))))), ((v.2.2.2.2.1, ()), ((v.2.2.2.2.2.1, ()), ((v.2.2.2.2.2.2.1, ()), ()))), (v.2.2.2.2.2.2.2, ())), fun _ => rfl⟩ (fun v => F_mempoollaw11_LedgerValidates_l3 v.1 v.2.1 v.2.2.1 v.2.2.2.1 v.2.2.2.2.1 v.2.2.2.2.2.1 v.2.2.2.2.2.2.1 v.2.2.2.2.2.2.2) .leaf)))))))))) (.two (.two .leaf (.one (.loop ⟨142, [(109, .one (.row 1000000)), (110, .one (.d (.int .i64))), (111, .one (.d (.int .i64)))], [], [(1000000, U_api_Ledger, 25, false)]⟩ ⟨fun x => (x.1.2.1.1, x.1.2.2.1.1, x.2.2.1), fun v => (((), ((v.1, ()), ((v.2.1, ()), ()))), (), (v.2.2, ())), fun _ => rfl⟩ (fun v => F_mempoollaw11_LedgerValidates_l2 v.1 v.2.1 v.2.2) .leaf))) .leaf)))))))
    (⟨trivial, ⟨trivial, ⟨trivial, ⟨trivial, ⟨trivial, ⟨⟨trivial, ⟨trivial, ⟨trivial, ⟨trivial, ⟨trivial, ⟨trivial, ⟨trivial, ⟨trivial, fun v => by kernel_rfl⟩⟩⟩⟩⟩⟩⟩⟩, ⟨⟨trivial, ⟨trivial, fun v => by kernel_rfl⟩⟩, trivial⟩, fun v => by kernel_rfl⟩⟩⟩⟩⟩⟩) (fun a => by kernel_rfl)

noncomputable def g_mempoolref10_SameLedger : TFn := ⟨.cons (.agg (.cons (.d U_api_Ledger) .nil)) (.cons (.agg (.cons (.d U_api_Ledger) .nil)) .nil), .nil, .cons (.c (.d .bool)) .nil, Bool, fun a => F_mempoolref10_SameLedger a.1.1 a.2.1.1, fun r => ((), (r, ())), .none⟩
theorem ok_mempoolref10_SameLedger : FnT Try.prog 20 g_mempoolref10_SameLedger :=
  fnT (T := T) (TU := TU) (Γ := []) T_ok (by rfl) (ctx_nil) Try.func20 rfl rfl rfl rfl (fun x => x.2.1) (fun _ => rfl)
    (.two .leaf (.two .leaf (.two (.two .leaf (.one (.loop ⟨38, [(2, .one (.ptr 1000000 0)), (3, .one (.ptr 1000001 0)), (22, .one (.d (.int .i64))), (23, .one (.d (.int .i64)))], [(1000000, [.d U_api_Ledger]), (1000001, [.d U_api_Ledger])], []⟩ ⟨fun x => (x.1.2.2.1.1, x.1.2.2.2.1.1, x.2.1.1.1, x.2.1.2.1.1), fun v => (((), ((), ((v.1, ()), ((v.2.1, ()), ())))), ((v.2.2.1, ()), ((v.2.2.2, ()), ())), ()), fun _ => rfl⟩ (fun v => F_mempoolref10_SameLedger_l1 v.1 v.2.1 v.2.2.1 v.2.2.2) .leaf))) .leaf)))
    (⟨trivial, ⟨trivial, ⟨⟨trivial, ⟨trivial, fun v => by kernel_rfl⟩⟩, trivial⟩⟩⟩) (fun a => by kernel_rfl)

noncomputable def g_mempoollaw11_LedgerBegins : TFn := ⟨.cons (.c (.d (.sl U_api_Account))) (.cons (.c (.d (.sl (.int .i64)))) (.cons (.c (.d (.int .i64))) .nil)), .nil, .cons (.c (.d .bool)) .nil, Bool, fun a => F_mempoollaw11_LedgerBegins a.1 a.2.1 a.2.2.1, fun r => ((), (r, ())), .none⟩
theorem ok_mempoollaw11_LedgerBegins : FnT Try.prog 4 g_mempoollaw11_LedgerBegins :=
  fnT (T := T) (TU := TU) (Γ := [(9, g_mempoollaw11_long), (10, g_mempoollaw11_big), (11, g_mempoollaw11_known), (12, g_mempoollaw11_made), (13, g_mempoolmake_Place), (18, g_ledger_Genesis), (19, g_mempoolref10_Genesis), (20, g_mempoolref10_SameLedger)]) T_ok (by rfl) (ctx_cons ok_mempoollaw11_long (ctx_cons ok_mempoollaw11_big (ctx_cons ok_mempoollaw11_known (ctx_cons ok_mempoollaw11_made (ctx_cons ok_mempoolmake_Place (ctx_cons ok_ledger_Genesis (ctx_cons ok_mempoolref10_Genesis (ctx_cons ok_mempoolref10_SameLedger ctx_nil)))))))) Try.func4 rfl rfl rfl rfl (fun x => x.2.1) (fun _ => rfl)
    (.two .leaf (.two .leaf (.two .leaf (.cut ⟨87, [(0, .one (.d (.sl U_api_Account))), (7, .one (.row 1000000))], [], [(1000000, U_api_Account, 28, false)]⟩ ⟨fun x => (x.1.1.1, x.2.2.1), fun v => (((v.1, ()), ((), ())), (), (v.2, ())), fun _ => rfl⟩ (fun v => F_mempoollaw11_LedgerBegins_c1 v.1 v.2) .leaf (.two (.two .leaf (.one (.loop ⟨87, [(60, .one (.row 1000000)), (61, .one (.d (.int .i64))), (62, .one (.d (.int .i64)))], [], [(1000000, (.sl U_api_Account), 22, false)]⟩ ⟨fun x => (x.1.2.1.1, x.1.2.2.1.1, x.2.2.1), fun v => (((), ((v.1, ()), ((v.2.1, ()), ()))), (), (v.2.2, ())), fun _ => rfl⟩ (fun v => F_mempoollaw11_LedgerBegins_l2 v.1 v.2.1 v.2.2) .leaf))) .leaf)))))
    (⟨trivial, ⟨trivial, ⟨trivial, ⟨trivial, ⟨⟨trivial, ⟨trivial, fun v => by kernel_rfl⟩⟩, trivial⟩, fun v => by kernel_rfl⟩⟩⟩⟩) (fun a => by kernel_rfl)

noncomputable def g_mempoollaw11_LedgerSets : TFn := ⟨.cons (.agg (.cons (.d U_api_Ledger) .nil)) (.cons (.c (.d (.sl (.int .i64)))) (.cons (.agg (.cons (.d U_api_Account) .nil)) (.cons (.c (.d (.int .i64))) .nil))), .nil, .cons (.c (.d .bool)) .nil, Bool, fun a => F_mempoollaw11_LedgerSets a.1.1 a.2.1 a.2.2.1.1 a.2.2.2.1, fun r => ((), (r, ())), .none⟩
theorem ok_mempoollaw11_LedgerSets : FnT Try.prog 5 g_mempoollaw11_LedgerSets :=
  fnT (T := T) (TU := TU) (Γ := [(9, g_mempoollaw11_long), (10, g_mempoollaw11_big), (11, g_mempoollaw11_known), (12, g_mempoollaw11_made), (13, g_mempoolmake_Place), (21, g_ledger_Set), (22, g_mempoolref10_Set), (20, g_mempoolref10_SameLedger), (23, g_ledger_Get), (16, g_ledger_Validate)]) T_ok (by rfl) (ctx_cons ok_mempoollaw11_long (ctx_cons ok_mempoollaw11_big (ctx_cons ok_mempoollaw11_known (ctx_cons ok_mempoollaw11_made (ctx_cons ok_mempoolmake_Place (ctx_cons ok_ledger_Set (ctx_cons ok_mempoolref10_Set (ctx_cons ok_mempoolref10_SameLedger (ctx_cons ok_ledger_Get (ctx_cons ok_ledger_Validate ctx_nil)))))))))) Try.func5 rfl rfl rfl rfl (fun x => x.2.1) (fun _ => rfl)
    (.two .leaf (.two .leaf (.two .leaf (.two .leaf (.two .leaf (.two .leaf (.cut ⟨160, [(9, .one (.ptr 1000000 0)), (10, .one (.ptr 1000001 0))], [(1000000, [.d U_api_Ledger]), (1000001, [.d U_api_Account])], []⟩ ⟨fun x => (x.2.1.1.1, x.2.1.2.1.1), fun v => (((), ((), ())), ((v.1, ()), ((v.2, ()), ())), ()), fun _ => rfl⟩ (fun v => F_mempoollaw11_LedgerSets_c1 v.1 v.2) (.two .leaf (.one (.loop ⟨160, [(6, .one (.ptr 1000000 0)), (9, .one (.ptr 1000001 0)), (10, .one (.ptr 1000002 0)), (57, .one (.row 1000000)), (58, .one (.d (.int .i64))), (59, .one (.d (.int .i64)))], [(1000000, [.d U_api_Account]), (1000001, [.d U_api_Ledger]), (1000002, [.d U_api_Account])], [(1000000, U_api_Ledger, 25, false)]⟩ ⟨fun x => (x.1.2.2.2.2.1.1, x.1.2.2.2.2.2.1.1, x.2.1.1.1, x.2.1.2.1.1, x.2.1.2.2.1.1, x.2.2.1), fun v => (((), ((), ((), ((), ((v.1, ()), ((v.2.1, ()), ())))))), ((v.2.2.1, ()), ((v.2.2.2.1, ()), ((v.2.2.2.2.1, ()), ()))), (v.2.2.2.2.2, ())), fun _ => rfl⟩ (fun v => F_mempoollaw11_LedgerSets_l4 v.1 v.2.1 v.2.2.1 v.2.2.2.1 v.2.2.2.2.1 v.2.2.2.2.2) (.two .leaf (.two .leaf (.two (.one (.two .leaf (.two .leaf (.one (.loop ⟨160, [(6, .one (.ptr 1000000 0)), (9, .one (.ptr 1000001 0)), (10, .one (.ptr 1000002 0)), (12, .one (.ptr 1000003 0)), (57, .one (.row 1000000)), (58, .one (.d (.int .i64))), (59, .one (.d (.int .i64))), (65, .one (.row 1000001)), (66, .one (.d (.int .i64))), (67, .one (.d (.int .i64)))], [(1000000, [.d U_api_Account]), (1000001, [.d U_api_Ledger]), (1000002, [.d U_api_Account]), (1000003, [.d U_api_Ledger])], [(1000000, U_api_Ledger, 25, false), (1000001, U_api_Account, 28, false)]⟩ ⟨fun x => (x.1.2.2.2.2.2.1.1, x.1.2.2.2.2.2.2.1.1, x.1.2.2.2.2.2.2.2.2.1.1, x.1.2.2.2.2.2.2.2.2.2.1.1, x.2.1.1.1, x.2.1.2.1.1, x.2.1.2.2.1.1, x.2.1.2.2.2.1.1, x.2.2.1, x.2.2.2.1), fun v => (((), ((), ((), ((), ((), ((v.1, ()), ((v.2.1, ()), ((), ((v.2.2.1, ()), ((v.2.2.2.1, ()), ())))))))))), ((v.2.2.2.2.1, ()), ((v.2.2.2.2.2.1, ()), ((v.2.2.2.2.2.2.1, ()), ((v.2.2.2.2.2.2.2.1, ()), ())))), (v.2.2.2.2.2.2.2.2.1, (v.2.2.2.2.2.2.2.2.2, ()))), fun _ => rfl⟩ (fun v => F_mempoollaw11_LedgerSets_l5 v.1 v.2.1 v.2.2.1 v.2.2.2.1 v.2.2.2.2.1 v.2.2.2.2.2.1 v.2.2.2.2.2.2.1 v.2.2.2.2.2.2.2.1 v.2.2.2.2.2.2.2.2.1 v.2.2.2.2.2.2.2.2.2) .leaf))))) .leaf)))))) (.two .leaf (.two .leaf (.cut ⟨160, [(9, .one (.ptr 1000000 0)), (10, .one (.ptr 1000001 0)), (19, .one (.ptr 1000002 0))], [(1000000, [.d U_api_Ledger]), (1000001, [.d U_api_Account]), (1000002, [.d U_api_Ledger])], []⟩ ⟨fun x => (x.2.1.1.1, x.2.1.2.1.1, x.2.1.2.2.1.1), fun v => (((), ((), ((), ()))), ((v.1, ()), ((v.2.1, ()), ((v.2.2, ()), ()))), ()), fun _ => rfl⟩ (fun v => F_mempoollaw11_LedgerSets_c2 v.1 v.2.1 v.2.2) (.two .leaf (.one (.loop ⟨160, [(9, .one (.ptr 1000000 0)), (10, .one (.ptr 1000001 0)), (19, .one (.ptr 1000002 0)), (104, .one (.d (.sl U_api_Account))), (105, .one (.d (.int .i64))), (106, .one (.d (.int .i64)))], [(1000000, [.d U_api_Ledger]), (1000001, [.d U_api_Account]), (1000002, [.d U_api_Ledger])], []⟩ ⟨fun x => (x.1.2.2.2.1.1, x.1.2.2.2.2.1.1, x.1.2.2.2.2.2.1.1, x.2.1.1.1, x.2.1.2.1.1, x.2.1.2.2.1.1), fun v => (((), ((), ((), ((v.1, ()), ((v.2.1, ()), ((v.2.2.1, ()), ())))))), ((v.2.2.2.1, ()), ((v.2.2.2.2.1, ()), ((v.2.2.2.2.2, ()), ()))), ()), fun _ => rfl⟩ (fun v => F_mempoollaw11_LedgerSets_l3 v.1 v.2.1 v.2.2.1 v.2.2.2.1 v.2.2.2.2.1 v.2.2.2.2.2) .leaf))) .leaf))))))))))
    (⟨trivial, ⟨trivial, ⟨trivial, ⟨trivial, ⟨trivial, ⟨trivial, ⟨⟨trivial, ⟨⟨trivial, ⟨trivial, ⟨⟨trivial, ⟨trivial, ⟨trivial, fun v => by kernel_rfl⟩⟩⟩, trivial⟩⟩⟩, fun v => by kernel_rfl⟩⟩, ⟨trivial, ⟨trivial, ⟨⟨trivial, ⟨trivial, fun v => by kernel_rfl⟩⟩, trivial, fun v => by kernel_rfl⟩⟩⟩, fun v => by kernel_rfl⟩⟩⟩⟩⟩⟩⟩) (fun a => by kernel_rfl)

noncomputable def g_mempoolref10_Get : TFn := ⟨.cons (.agg (.cons (.d U_api_Ledger) .nil)) (.cons (.c (.d .str)) .nil), .nil, .cons (.agg (.cons (.d U_api_Account) .nil)) (.cons (.c (.d .bool)) .nil), D_api_Account × Bool, fun a => F_mempoolref10_Get a.1.1 a.2.1, fun r => ((), ((r.1, ()), (r.2, ()))), .none⟩
theorem ok_mempoolref10_Get : FnT Try.prog 24 g_mempoolref10_Get :=
  fnT (T := T) (TU := TU) (Γ := [(39, g_mempoolref10_Find)]) T_ok (by rfl) (ctx_cons ok_mempoolref10_Find ctx_nil) Try.func24 rfl rfl rfl rfl (fun x => (x.2.1.1, x.2.2.1)) (fun _ => rfl)
    (.leaf)
    (trivial) (fun a => by kernel_rfl)

noncomputable def g_mempoollaw11_LedgerGets : TFn := ⟨.cons (.agg (.cons (.d U_api_Ledger) .nil)) (.cons (.c (.d .str)) (.cons (.c (.d (.sl (.int .i64)))) .nil)), .nil, .cons (.c (.d .bool)) .nil, Bool, fun a => F_mempoollaw11_LedgerGets a.1.1 a.2.1 a.2.2.1, fun r => ((), (r, ())), .none⟩
theorem ok_mempoollaw11_LedgerGets : FnT Try.prog 6 g_mempoollaw11_LedgerGets :=
  fnT (T := T) (TU := TU) (Γ := [(9, g_mempoollaw11_long), (10, g_mempoollaw11_big), (11, g_mempoollaw11_known), (12, g_mempoollaw11_made), (23, g_ledger_Get), (24, g_mempoolref10_Get)]) T_ok (by rfl) (ctx_cons ok_mempoollaw11_long (ctx_cons ok_mempoollaw11_big (ctx_cons ok_mempoollaw11_known (ctx_cons ok_mempoollaw11_made (ctx_cons ok_ledger_Get (ctx_cons ok_mempoolref10_Get ctx_nil)))))) Try.func6 rfl rfl rfl rfl (fun x => x.2.1) (fun _ => rfl)
    (.two .leaf (.two .leaf (.two .leaf (.two (.two .leaf (.one (.loop ⟨85, [(3, .one (.ptr 1000000 0)), (7, .one (.ptr 1000001 0)), (35, .one (.row 1000000)), (36, .one (.d (.int .i64))), (37, .one (.d (.int .i64)))], [(1000000, [.d U_api_Ledger]), (1000001, [.d U_api_Ledger])], [(1000000, .str, 9, false)]⟩ ⟨fun x => (x.1.2.2.2.1.1, x.1.2.2.2.2.1.1, x.2.1.1.1, x.2.1.2.1.1, x.2.2.1), fun v => (((), ((), ((), ((v.1, ()), ((v.2.1, ()), ()))))), ((v.2.2.1, ()), ((v.2.2.2.1, ()), ())), (v.2.2.2.2, ())), fun _ => rfl⟩ (fun v => F_mempoollaw11_LedgerGets_l1 v.1 v.2.1 v.2.2.1 v.2.2.2.1 v.2.2.2.2) .leaf))) .leaf))))
    (⟨trivial, ⟨trivial, ⟨trivial, ⟨⟨trivial, ⟨trivial, fun v => by kernel_rfl⟩⟩, trivial⟩⟩⟩⟩) (fun a => by kernel_rfl)

noncomputable def g_mempoollaw11_LedgerLimits : TFn := ⟨.cons (.c (.d (.int .i64))) (.cons (.c (.d .bool)) .nil), .nil, .cons (.c (.d .bool)) .nil, Bool, fun a => F_mempoollaw11_LedgerLimits a.1 a.2.1, fun r => ((), (r, ())), .none⟩
theorem ok_mempoollaw11_LedgerLimits : FnT Try.prog 7 g_mempoollaw11_LedgerLimits :=
  fnT (T := T) (TU := TU) (Γ := [(13, g_mempoolmake_Place), (18, g_ledger_Genesis), (19, g_mempoolref10_Genesis), (21, g_ledger_Set), (22, g_mempoolref10_Set), (20, g_mempoolref10_SameLedger), (16, g_ledger_Validate), (17, g_mempoolref10_ValidateLedger), (11, g_mempoollaw11_known)]) T_ok (by rfl) (ctx_cons ok_mempoolmake_Place (ctx_cons ok_ledger_Genesis (ctx_cons ok_mempoolref10_Genesis (ctx_cons ok_ledger_Set (ctx_cons ok_mempoolref10_Set (ctx_cons ok_mempoolref10_SameLedger (ctx_cons ok_ledger_Validate (ctx_cons ok_mempoolref10_ValidateLedger (ctx_cons ok_mempoollaw11_known ctx_nil))))))))) Try.func7 rfl rfl rfl rfl (fun x => x.2.1) (fun _ => rfl)
    (.two .leaf (.two .leaf (.cut ⟨93, [(1, .one (.d .bool)), (5, .one (.row 1000000))], [], [(1000000, U_api_Account, 28, false)]⟩ ⟨fun x => (x.1.1.1, x.2.2.1), fun v => (((v.1, ()), ((), ())), (), (v.2, ())), fun _ => rfl⟩ (fun v => F_mempoollaw11_LedgerLimits_c1 v.1 v.2) (.two .leaf (.one (.loop ⟨93, [(1, .one (.d .bool)), (5, .one (.row 1000000)), (6, .one (.d (.int .i64)))], [], [(1000000, U_api_Account, 28, false)]⟩ ⟨fun x => (x.1.1.1, x.1.2.2.1.1, x.2.2.1), fun v => (((v.1, ()), ((), ((v.2.1, ()), ()))), (), (v.2.2, ())), fun _ => rfl⟩ (fun v => F_mempoollaw11_LedgerLimits_l3 v.1 v.2.1 v.2.2) .leaf))) (.two .leaf (.two .leaf (.two .leaf (.cut ⟨93, [(5, .one (.row 1000000)), (7, .one (.ptr 1000000 0)), (8, .one (.d (.int .i64))), (9, .one (.ptr 1000001 0)), (10, .one (.d (.int .i64))), (11, .one (.d .str))], [(1000000, [.d U_api_Ledger]), (1000001, [.d U_api_Ledger])], [(1000000, U_api_Account, 28, true)]⟩ ⟨fun x => (x.1.2.2.1.1, x.1.2.2.2.2.1.1, x.1.2.2.2.2.2.1.1, x.2.1.1.1, x.2.1.2.1.1, x.2.2.1), fun v => (((), ((), ((v.1, ()), ((), ((v.2.1, ()), ((v.2.2.1, ()), ())))))), ((v.2.2.2.1, ()), ((v.2.2.2.2.1, ()), ())), (v.2.2.2.2.2, ())), fun _ => rfl⟩ (fun v => F_mempoollaw11_LedgerLimits_c2 v.1 v.2.1 v.2.2.1 v.2.2.2.1 v.2.2.2.2.1 v.2.2.2.2.2) .leaf .leaf)))))))
    (⟨trivial, ⟨trivial, ⟨⟨trivial, ⟨trivial, fun v => by kernel_rfl⟩⟩, ⟨trivial, ⟨trivial, ⟨trivial, ⟨trivial, trivial, fun v => by kernel_rfl⟩⟩⟩⟩, fun v => by kernel_rfl⟩⟩⟩) (fun a => by kernel_rfl)

noncomputable def g_wire_valid : TFn := ⟨.cons (.agg (.cons (.d U_api_Field) .nil)) .nil, .nil, .cons (.c (.d .bool)) .nil, Bool, fun a => F_wire_valid a.1.1, fun r => ((), (r, ())), .none⟩
theorem ok_wire_valid : FnT Try.prog 78 g_wire_valid :=
  fnT (T := T) (TU := TU) (Γ := []) T_ok (by rfl) (ctx_nil) Try.func78 rfl rfl rfl rfl (fun x => x.2.1) (fun _ => rfl)
    (.leaf)
    (trivial) (fun a => by kernel_rfl)

noncomputable def g_wire_tag : TFn := ⟨.cons (.agg (.cons (.d U_api_Field) .nil)) .nil, .nil, .cons (.c (.d (.int .u64))) .nil, Int, fun a => F_wire_tag a.1.1, fun r => ((), (r, ())), .none⟩
theorem ok_wire_tag : FnT Try.prog 80 g_wire_tag :=
  fnT (T := T) (TU := TU) (Γ := []) T_ok (by rfl) (ctx_nil) Try.func80 rfl rfl rfl rfl (fun x => x.2.1) (fun _ => rfl)
    (.leaf)
    (trivial) (fun a => by kernel_rfl)

noncomputable def g_varint_Append : TFn := ⟨.cons (.c (.d (.sl .byte))) (.cons (.c (.d (.int .u64))) .nil), .nil, .cons (.c (.row .byte 5)) .nil, List UInt8, fun a => F_varint_Append a.1 a.2.1, fun r => ((), (r, ())), .none⟩
theorem ok_varint_Append : FnT Try.prog 79 g_varint_Append :=
  fnT (T := T) (TU := TU) (Γ := []) T_ok (by rfl) (ctx_nil) Try.func79 rfl rfl rfl rfl (fun x => x.2.1) (fun _ => rfl)
    (.two .leaf (.two .leaf (.cut ⟨23, [(1, .one (.d (.int .u64))), (5, .one (.row 1000000))], [], [(1000000, .byte, 5, false)]⟩ ⟨fun x => (x.1.1.1, x.2.2.1), fun v => (((v.1, ()), ((), ())), (), (v.2, ())), fun _ => rfl⟩ (fun v => F_varint_Append_c1 v.1 v.2) (.one (.loop ⟨23, [(1, .one (.d (.int .u64))), (5, .one (.row 1000000))], [], [(1000000, .byte, 5, false)]⟩ ⟨fun x => (x.1.1.1, x.2.2.1), fun v => (((v.1, ()), ((), ())), (), (v.2, ())), fun _ => rfl⟩ (fun v => F_varint_Append_l2 v.1 v.2) .leaf)) .leaf)))
    (⟨trivial, ⟨trivial, ⟨⟨trivial, fun v => by kernel_rfl⟩, trivial, fun v => by kernel_rfl⟩⟩⟩) (fun a => by kernel_rfl)

noncomputable def g_wire_Append : TFn := ⟨.cons (.c (.d (.sl .byte))) (.cons (.agg (.cons (.d U_api_Field) .nil)) .nil), .nil, .cons (.c (.row .byte 5)) (.cons (.c (.d (.int .i64))) .nil), List UInt8 × Int, fun a => F_wire_Append a.1 a.2.1.1, fun r => ((), (r.1, (r.2, ()))), .none⟩
theorem ok_wire_Append : FnT Try.prog 55 g_wire_Append :=
  fnT (T := T) (TU := TU) (Γ := [(78, g_wire_valid), (80, g_wire_tag), (79, g_varint_Append)]) T_ok (by rfl) (ctx_cons ok_wire_valid (ctx_cons ok_wire_tag (ctx_cons ok_varint_Append ctx_nil))) Try.func55 rfl rfl rfl rfl (fun x => (x.2.1, x.2.2.1)) (fun _ => rfl)
    (.leaf)
    (trivial) (fun a => by kernel_rfl)

noncomputable def g_ledger_leaf : TFn := ⟨.cons (.c (.d (.sl U_api_Field))) .nil, .nil, .cons (.c (.row .byte 5)) .nil, List UInt8, fun a => F_ledger_leaf a.1, fun r => ((), (r, ())), .none⟩
theorem ok_ledger_leaf : FnT Try.prog 44 g_ledger_leaf :=
  fnT (T := T) (TU := TU) (Γ := [(55, g_wire_Append)]) T_ok (by rfl) (ctx_cons ok_wire_Append ctx_nil) Try.func44 rfl rfl rfl rfl (fun x => x.2.1) (fun _ => rfl)
    (.two .leaf (.two .leaf (.two (.two .leaf (.one (.loop ⟨20, [(3, .one (.row 1000000)), (6, .one (.d (.sl U_api_Field))), (7, .one (.d (.int .i64))), (8, .one (.d (.int .i64)))], [], [(1000000, .byte, 5, false)]⟩ ⟨fun x => (x.1.2.1.1, x.1.2.2.1.1, x.1.2.2.2.1.1, x.2.2.1), fun v => (((), ((v.1, ()), ((v.2.1, ()), ((v.2.2.1, ()), ())))), (), (v.2.2.2, ())), fun _ => rfl⟩ (fun v => F_ledger_leaf_l1 v.1 v.2.1 v.2.2.1 v.2.2.2) .leaf))) .leaf)))
    (⟨trivial, ⟨trivial, ⟨⟨trivial, ⟨trivial, fun v => by kernel_rfl⟩⟩, trivial⟩⟩⟩) (fun a => by kernel_rfl)

noncomputable def g_sha_begin : TFn := ⟨.nil, .nil, .cons (.agg (.cons (.d (.arr 8 (.int .u32))) .nil)) .nil, Vector Int 8, fun _ => F_sha_begin, fun r => ((), ((r, ()), ())), .none⟩
theorem ok_sha_begin : FnT Try.prog 93 g_sha_begin :=
  fnT (T := T) (TU := TU) (Γ := []) T_ok (by rfl) (ctx_nil) Try.func93 rfl rfl rfl rfl (fun x => x.2.1.1) (fun _ => rfl)
    (.leaf)
    (trivial) (fun a => by kernel_rfl)

noncomputable def g_sha_New : TFn := ⟨.nil, .nil, .cons (.c (.box (.cons (.d U_sha_Digest) .nil))) .nil, D_sha_Digest, fun _ => F_sha_New, fun r => ((), ((r, ()), ())), .none⟩
theorem ok_sha_New : FnT Try.prog 81 g_sha_New :=
  fnT (T := T) (TU := TU) (Γ := [(93, g_sha_begin)]) T_ok (by rfl) (ctx_cons ok_sha_begin ctx_nil) Try.func81 rfl rfl rfl rfl (fun x => x.2.1.1) (fun _ => rfl)
    (.leaf)
    (trivial) (fun a => by kernel_rfl)

noncomputable def g_math_bits_RotateLeft32 : TFn := ⟨.cons (.c (.d (.int .u32))) (.cons (.c (.d (.int .i64))) .nil), .nil, .cons (.c (.d (.int .u32))) .nil, Int, fun a => F_math_bits_RotateLeft32 a.1 a.2.1, fun r => ((), (r, ())), .none⟩
theorem ok_math_bits_RotateLeft32 : FnT Try.prog 101 g_math_bits_RotateLeft32 :=
  fnT (T := T) (TU := TU) (Γ := []) T_ok (by rfl) (ctx_nil) Try.func101 rfl rfl rfl rfl (fun x => x.2.1) (fun _ => rfl)
    (.leaf)
    (trivial) (fun a => by kernel_rfl)

noncomputable def g_sha_right : TFn := ⟨.cons (.c (.d (.int .u32))) (.cons (.c (.d (.int .i64))) .nil), .nil, .cons (.c (.d (.int .u32))) .nil, Int, fun a => F_sha_right a.1 a.2.1, fun r => ((), (r, ())), .none⟩
theorem ok_sha_right : FnT Try.prog 100 g_sha_right :=
  fnT (T := T) (TU := TU) (Γ := [(101, g_math_bits_RotateLeft32)]) T_ok (by rfl) (ctx_cons ok_math_bits_RotateLeft32 ctx_nil) Try.func100 rfl rfl rfl rfl (fun x => x.2.1) (fun _ => rfl)
    (.leaf)
    (trivial) (fun a => by kernel_rfl)

noncomputable def g_sha_schedule : TFn := ⟨.cons (.c (.d (.sl .byte))) .nil, .nil, .cons (.agg (.cons (.d (.arr 64 (.int .u32))) .nil)) .nil, Vector Int 64, fun a => F_sha_schedule a.1, fun r => ((), ((r, ()), ())), .none⟩
theorem ok_sha_schedule : FnT Try.prog 98 g_sha_schedule :=
  fnT (T := T) (TU := TU) (Γ := [(100, g_sha_right)]) T_ok (by rfl) (ctx_cons ok_sha_right ctx_nil) Try.func98 rfl rfl rfl rfl (fun x => x.2.1.1) (fun _ => rfl)
    (.two .leaf (.two .leaf (.cut ⟨93, [(2, .one (.ptr 1000000 0)), (3, .one (.ptr 1000001 0))], [(1000000, [.d (.arr 64 (.int .u32))]), (1000001, [.d (.arr 64 (.int .u32))])], []⟩ ⟨fun x => (x.2.1.1.1, x.2.1.2.1.1), fun v => (((), ((), ())), ((v.1, ()), ((v.2, ()), ())), ()), fun _ => rfl⟩ (fun v => F_sha_schedule_c1 v.1 v.2) (.two .leaf (.one (.loop ⟨93, [(0, .one (.d (.sl .byte))), (2, .one (.ptr 1000000 0)), (3, .one (.ptr 1000001 0)), (10, .one (.d (.int .i64)))], [(1000000, [.d (.arr 64 (.int .u32))]), (1000001, [.d (.arr 64 (.int .u32))])], []⟩ ⟨fun x => (x.1.1.1, x.1.2.2.2.1.1, x.2.1.1.1, x.2.1.2.1.1), fun v => (((v.1, ()), ((), ((), ((v.2.1, ()), ())))), ((v.2.2.1, ()), ((v.2.2.2, ()), ())), ()), fun _ => rfl⟩ (fun v => F_sha_schedule_l3 v.1 v.2.1 v.2.2.1 v.2.2.2) .leaf))) (.two (.two .leaf (.one (.loop ⟨93, [(2, .one (.ptr 1000000 0)), (3, .one (.ptr 1000001 0)), (5, .one (.d (.int .i64)))], [(1000000, [.d (.arr 64 (.int .u32))]), (1000001, [.d (.arr 64 (.int .u32))])], []⟩ ⟨fun x => (x.1.2.2.1.1, x.2.1.1.1, x.2.1.2.1.1), fun v => (((), ((), ((v.1, ()), ()))), ((v.2.1, ()), ((v.2.2, ()), ())), ()), fun _ => rfl⟩ (fun v => F_sha_schedule_l2 v.1 v.2.1 v.2.2) .leaf))) .leaf))))
    (⟨trivial, ⟨trivial, ⟨⟨trivial, ⟨trivial, fun v => by kernel_rfl⟩⟩, ⟨⟨trivial, ⟨trivial, fun v => by kernel_rfl⟩⟩, trivial⟩, fun v => by kernel_rfl⟩⟩⟩) (fun a => by kernel_rfl)

noncomputable def g_sha_rounds : TFn := ⟨.nil, .nil, .cons (.c (.box (.cons (.d (.arr 64 (.int .u32))) .nil))) .nil, Vector Int 64, fun _ => F_sha_rounds, fun r => ((), ((r, ()), ())), .none⟩
theorem ok_sha_rounds : FnT Try.prog 99 g_sha_rounds :=
  fnT (T := T) (TU := TU) (Γ := []) T_ok (by rfl) (ctx_nil) Try.func99 rfl rfl rfl rfl (fun x => x.2.1.1) (fun _ => rfl)
    (.leaf)
    (trivial) (fun a => by kernel_rfl)

noncomputable def g_sha_words_block : TFn := ⟨.cons (.agg (.cons (.d (.arr 8 (.int .u32))) .nil)) (.cons (.c (.d (.sl .byte))) .nil), .nil, .cons (.agg (.cons (.d (.arr 8 (.int .u32))) .nil)) .nil, Vector Int 8, fun a => F_sha_words_block a.1.1 a.2.1, fun r => ((), ((r, ()), ())), .none⟩
theorem ok_sha_words_block : FnT Try.prog 94 g_sha_words_block :=
  fnT (T := T) (TU := TU) (Γ := [(98, g_sha_schedule), (99, g_sha_rounds), (100, g_sha_right)]) T_ok (by rfl) (ctx_cons ok_sha_schedule (ctx_cons ok_sha_rounds (ctx_cons ok_sha_right ctx_nil))) Try.func94 rfl rfl rfl rfl (fun x => x.2.1.1) (fun _ => rfl)
    (.two .leaf (.two .leaf (.two .leaf (.cut ⟨119, [(2, .one (.ptr 1000000 0)), (4, .one (.ptr 1000001 0)), (7, .one (.ptr 1000002 0))], [(1000000, [.d (.arr 8 (.int .u32))]), (1000001, [.d (.arr 8 (.int .u32))]), (1000002, [.d (.arr 8 (.int .u32))])], []⟩ ⟨fun x => (x.2.1.1.1, x.2.1.2.1.1, x.2.1.2.2.1.1), fun v => (((), ((), ((), ()))), ((v.1, ()), ((v.2.1, ()), ((v.2.2, ()), ()))), ()), fun _ => rfl⟩ (fun v => F_sha_words_block_c1 v.1 v.2.1 v.2.2) (.two .leaf (.one (.loop ⟨119, [(2, .one (.ptr 1000000 0)), (4, .one (.ptr 1000001 0)), (5, .one (.ptr 1000002 0)), (6, .one (.ptr 1000003 0)), (7, .one (.ptr 1000004 0)), (21, .one (.d (.int .i64)))], [(1000000, [.d (.arr 8 (.int .u32))]), (1000001, [.d (.arr 8 (.int .u32))]), (1000002, [.d (.arr 64 (.int .u32))]), (1000003, [.d (.arr 64 (.int .u32))]), (1000004, [.d (.arr 8 (.int .u32))])], []⟩ ⟨fun x => (x.1.2.2.2.2.2.1.1, x.2.1.1.1, x.2.1.2.1.1, x.2.1.2.2.1.1, x.2.1.2.2.2.1.1, x.2.1.2.2.2.2.1.1), fun v => (((), ((), ((), ((), ((), ((v.1, ()), ())))))), ((v.2.1, ()), ((v.2.2.1, ()), ((v.2.2.2.1, ()), ((v.2.2.2.2.1, ()), ((v.2.2.2.2.2, ()), ()))))), ()), fun _ => rfl⟩ (fun v => F_sha_words_block_l3 v.1 v.2.1 v.2.2.1 v.2.2.2.1 v.2.2.2.2.1 v.2.2.2.2.2) .leaf))) (.two (.two .leaf (.one (.loop ⟨119, [(2, .one (.ptr 1000000 0)), (4, .one (.ptr 1000001 0)), (7, .one (.ptr 1000002 0)), (106, .one (.d (.int .i64)))], [(1000000, [.d (.arr 8 (.int .u32))]), (1000001, [.d (.arr 8 (.int .u32))]), (1000002, [.d (.arr 8 (.int .u32))])], []⟩ ⟨fun x => (x.1.2.2.2.1.1, x.2.1.1.1, x.2.1.2.1.1, x.2.1.2.2.1.1), fun v => (((), ((), ((), ((v.1, ()), ())))), ((v.2.1, ()), ((v.2.2.1, ()), ((v.2.2.2, ()), ()))), ()), fun _ => rfl⟩ (fun v => F_sha_words_block_l2 v.1 v.2.1 v.2.2.1 v.2.2.2) .leaf))) .leaf)))))
    (⟨trivial, ⟨trivial, ⟨trivial, ⟨⟨trivial, ⟨trivial, fun v => by kernel_rfl⟩⟩, ⟨⟨trivial, ⟨trivial, fun v => by kernel_rfl⟩⟩, trivial⟩, fun v => by kernel_rfl⟩⟩⟩⟩) (fun a => by kernel_rfl)

noncomputable def g_sha_Digest_Write : TFn := ⟨.cons (.bx (.cons (.d U_sha_Digest) .nil)) (.cons (.c (.d (.sl .byte))) .nil), .cons (.cons (.d U_sha_Digest) .nil) .nil, .nil, D_sha_Digest, fun a => F_sha_Digest_Write a.1.1 a.2.1, fun r => (((r, ()), ()), ()), .none⟩
theorem ok_sha_Digest_Write : FnT Try.prog 82 g_sha_Digest_Write :=
  fnT (T := T) (TU := TU) (Γ := [(94, g_sha_words_block)]) T_ok (by rfl) (ctx_cons ok_sha_words_block ctx_nil) Try.func82 rfl rfl rfl rfl (fun x => x.1.1.1) (fun _ => rfl)
    (.two .leaf (.two .leaf (.two .leaf (.cut ⟨43, [(0, .one (.ptr 1000000 0)), (4, .one (.d (.sl .byte))), (43, .one (.ptr 1000000 0))], [(1000000, [.d U_sha_Digest])], []⟩ ⟨fun x => (x.1.2.1.1, x.2.1.1.1), fun v => (((), ((v.1, ()), ((), ()))), ((v.2, ()), ()), ()), fun _ => rfl⟩ (fun v => F_sha_Digest_Write_c1 v.1 v.2) (.one (.loop ⟨43, [(0, .one (.ptr 1000000 0)), (4, .one (.d (.sl .byte))), (43, .one (.ptr 1000000 0))], [(1000000, [.d U_sha_Digest])], []⟩ ⟨fun x => (x.1.2.1.1, x.2.1.1.1), fun v => (((), ((v.1, ()), ((), ()))), ((v.2, ()), ()), ()), fun _ => rfl⟩ (fun v => F_sha_Digest_Write_l2 v.1 v.2) .leaf)) .leaf))))
    (⟨trivial, ⟨trivial, ⟨trivial, ⟨⟨trivial, fun v => by kernel_rfl⟩, trivial, fun v => by kernel_rfl⟩⟩⟩⟩) (fun a => by kernel_rfl)

noncomputable def g_sha_Digest_Sum : TFn := ⟨.cons (.bx (.cons (.d U_sha_Digest) .nil)) .nil, .cons (.cons (.d U_sha_Digest) .nil) .nil, .cons (.agg (.cons (.d (.arr 32 .byte)) .nil)) .nil, D_sha_Digest × Vector UInt8 32, fun a => F_sha_Digest_Sum a.1.1, fun r => (((r.1, ()), ()), ((r.2, ()), ())), .none⟩
theorem ok_sha_Digest_Sum : FnT Try.prog 83 g_sha_Digest_Sum :=
  fnT (T := T) (TU := TU) (Γ := [(94, g_sha_words_block)]) T_ok (by rfl) (ctx_cons ok_sha_words_block ctx_nil) Try.func83 rfl rfl rfl rfl (fun x => (x.1.1.1, x.2.1.1)) (fun _ => rfl)
    (.two .leaf (.two .leaf (.two .leaf (.two .leaf (.cut ⟨90, [(0, .one (.ptr 1000000 0)), (2, .one (.ptr 1000001 0)), (3, .one (.ptr 1000002 0)), (4, .one (.row 1000000)), (90, .one (.ptr 1000000 0))], [(1000000, [.d U_sha_Digest]), (1000001, [.d (.arr 32 .byte)]), (1000002, [.d (.arr 32 .byte)])], [(1000000, .byte, 5, false)]⟩ ⟨fun x => (x.2.1.1.1, x.2.1.2.1.1, x.2.1.2.2.1.1, x.2.2.1), fun v => (((), ((), ((), ((), ((), ()))))), ((v.1, ()), ((v.2.1, ()), ((v.2.2.1, ()), ()))), (v.2.2.2, ())), fun _ => rfl⟩ (fun v => F_sha_Digest_Sum_c1 v.1 v.2.1 v.2.2.1 v.2.2.2) (.one (.loop ⟨90, [(0, .one (.ptr 1000000 0)), (2, .one (.ptr 1000001 0)), (3, .one (.ptr 1000002 0)), (4, .one (.row 1000000)), (90, .one (.ptr 1000000 0))], [(1000000, [.d U_sha_Digest]), (1000001, [.d (.arr 32 .byte)]), (1000002, [.d (.arr 32 .byte)])], [(1000000, .byte, 5, false)]⟩ ⟨fun x => (x.2.1.1.1, x.2.1.2.1.1, x.2.1.2.2.1.1, x.2.2.1), fun v => (((), ((), ((), ((), ((), ()))))), ((v.1, ()), ((v.2.1, ()), ((v.2.2.1, ()), ()))), (v.2.2.2, ())), fun _ => rfl⟩ (fun v => F_sha_Digest_Sum_l7 v.1 v.2.1 v.2.2.1 v.2.2.2) .leaf)) (.two .leaf (.cut ⟨90, [(0, .one (.ptr 1000000 0)), (2, .one (.ptr 1000001 0)), (3, .one (.ptr 1000002 0)), (4, .one (.row 1000000)), (90, .one (.ptr 1000000 0))], [(1000000, [.d U_sha_Digest]), (1000001, [.d (.arr 32 .byte)]), (1000002, [.d (.arr 32 .byte)])], [(1000000, .byte, 5, false)]⟩ ⟨fun x => (x.2.1.1.1, x.2.1.2.1.1, x.2.1.2.2.1.1, x.2.2.1), fun v => (((), ((), ((), ((), ((), ()))))), ((v.1, ()), ((v.2.1, ()), ((v.2.2.1, ()), ()))), (v.2.2.2, ())), fun _ => rfl⟩ (fun v => F_sha_Digest_Sum_c2 v.1 v.2.1 v.2.2.1 v.2.2.2) (.two .leaf (.one (.loop ⟨90, [(0, .one (.ptr 1000000 0)), (2, .one (.ptr 1000001 0)), (3, .one (.ptr 1000002 0)), (4, .one (.row 1000000)), (5, .one (.d (.int .u64))), (6, .one (.d (.int .i64))), (90, .one (.ptr 1000000 0))], [(1000000, [.d U_sha_Digest]), (1000001, [.d (.arr 32 .byte)]), (1000002, [.d (.arr 32 .byte)])], [(1000000, .byte, 5, false)]⟩ ⟨fun x => (x.1.2.2.2.2.1.1, x.1.2.2.2.2.2.1.1, x.2.1.1.1, x.2.1.2.1.1, x.2.1.2.2.1.1, x.2.2.1), fun v => (((), ((), ((), ((), ((v.1, ()), ((v.2.1, ()), ((), ()))))))), ((v.2.2.1, ()), ((v.2.2.2.1, ()), ((v.2.2.2.2.1, ()), ()))), (v.2.2.2.2.2, ())), fun _ => rfl⟩ (fun v => F_sha_Digest_Sum_l6 v.1 v.2.1 v.2.2.1 v.2.2.2.1 v.2.2.2.2.1 v.2.2.2.2.2) .leaf))) (.two .leaf (.cut ⟨90, [(2, .one (.ptr 1000000 0)), (3, .one (.ptr 1000001 0)), (7, .one (.ptr 1000002 0)), (90, .one (.ptr 1000003 0))], [(1000000, [.d (.arr 32 .byte)]), (1000001, [.d (.arr 32 .byte)]), (1000002, [.d (.arr 8 (.int .u32))]), (1000003, [.d U_sha_Digest])], []⟩ ⟨fun x => (x.2.1.1.1, x.2.1.2.1.1, x.2.1.2.2.1.1, x.2.1.2.2.2.1.1), fun v => (((), ((), ((), ((), ())))), ((v.1, ()), ((v.2.1, ()), ((v.2.2.1, ()), ((v.2.2.2, ()), ())))), ()), fun _ => rfl⟩ (fun v => F_sha_Digest_Sum_c3 v.1 v.2.1 v.2.2.1 v.2.2.2) (.one (.loop ⟨90, [(2, .one (.ptr 1000000 0)), (3, .one (.ptr 1000001 0)), (4, .one (.d (.sl .byte))), (7, .one (.ptr 1000002 0)), (90, .one (.ptr 1000003 0))], [(1000000, [.d (.arr 32 .byte)]), (1000001, [.d (.arr 32 .byte)]), (1000002, [.d (.arr 8 (.int .u32))]), (1000003, [.d U_sha_Digest])], []⟩ ⟨fun x => (x.1.2.2.1.1, x.2.1.1.1, x.2.1.2.1.1, x.2.1.2.2.1.1, x.2.1.2.2.2.1.1), fun v => (((), ((), ((v.1, ()), ((), ((), ()))))), ((v.2.1, ()), ((v.2.2.1, ()), ((v.2.2.2.1, ()), ((v.2.2.2.2, ()), ())))), ()), fun _ => rfl⟩ (fun v => F_sha_Digest_Sum_l5 v.1 v.2.1 v.2.2.1 v.2.2.2.1 v.2.2.2.2) .leaf)) (.two (.two .leaf (.one (.loop ⟨90, [(2, .one (.ptr 1000000 0)), (3, .one (.ptr 1000001 0)), (57, .agg [.d (.arr 8 (.int .u32))]), (58, .one (.d (.int .i64))), (90, .one (.ptr 1000002 0))], [(1000000, [.d (.arr 32 .byte)]), (1000001, [.d (.arr 32 .byte)]), (1000002, [.d U_sha_Digest])], []⟩ ⟨fun x => (x.1.2.2.1.1, x.1.2.2.2.1.1, x.2.1.1.1, x.2.1.2.1.1, x.2.1.2.2.1.1), fun v => (((), ((), ((v.1, ()), ((v.2.1, ()), ((), ()))))), ((v.2.2.1, ()), ((v.2.2.2.1, ()), ((v.2.2.2.2, ()), ()))), ()), fun _ => rfl⟩ (fun v => F_sha_Digest_Sum_l4 v.1 v.2.1 v.2.2.1 v.2.2.2.1 v.2.2.2.2) .leaf))) .leaf))))))))))
    (⟨trivial, ⟨trivial, ⟨trivial, ⟨trivial, ⟨⟨trivial, fun v => by kernel_rfl⟩, ⟨trivial, ⟨⟨trivial, ⟨trivial, fun v => by kernel_rfl⟩⟩, ⟨trivial, ⟨⟨trivial, fun v => by kernel_rfl⟩, ⟨⟨trivial, ⟨trivial, fun v => by kernel_rfl⟩⟩, trivial⟩, fun v => by kernel_rfl⟩⟩, fun v => by kernel_rfl⟩⟩, fun v => by kernel_rfl⟩⟩⟩⟩⟩) (fun a => by kernel_rfl)

noncomputable def g_sha_Sum : TFn := ⟨.cons (.c (.d (.sl .byte))) .nil, .nil, .cons (.agg (.cons (.d (.arr 32 .byte)) .nil)) .nil, Vector UInt8 32, fun a => F_sha_Sum a.1, fun r => ((), ((r, ()), ())), .none⟩
theorem ok_sha_Sum : FnT Try.prog 56 g_sha_Sum :=
  fnT (T := T) (TU := TU) (Γ := [(81, g_sha_New), (82, g_sha_Digest_Write), (83, g_sha_Digest_Sum)]) T_ok (by rfl) (ctx_cons ok_sha_New (ctx_cons ok_sha_Digest_Write (ctx_cons ok_sha_Digest_Sum ctx_nil))) Try.func56 rfl rfl rfl rfl (fun x => x.2.1.1) (fun _ => rfl)
    (.leaf)
    (trivial) (fun a => by kernel_rfl)

noncomputable def g_merkle_Leaf : TFn := ⟨.cons (.c (.d (.sl .byte))) .nil, .nil, .cons (.agg (.cons (.d (.arr 32 .byte)) .nil)) .nil, Vector UInt8 32, fun a => F_merkle_Leaf a.1, fun r => ((), ((r, ()), ())), .none⟩
theorem ok_merkle_Leaf : FnT Try.prog 57 g_merkle_Leaf :=
  fnT (T := T) (TU := TU) (Γ := [(81, g_sha_New), (82, g_sha_Digest_Write), (83, g_sha_Digest_Sum)]) T_ok (by rfl) (ctx_cons ok_sha_New (ctx_cons ok_sha_Digest_Write (ctx_cons ok_sha_Digest_Sum ctx_nil))) Try.func57 rfl rfl rfl rfl (fun x => x.2.1.1) (fun _ => rfl)
    (.leaf)
    (trivial) (fun a => by kernel_rfl)

noncomputable def g_math_bits_Len64 : TFn := ⟨.cons (.c (.d (.int .u64))) .nil, .nil, .cons (.c (.d (.int .i64))) .nil, Int, fun a => F_math_bits_Len64 a.1, fun r => ((), (r, ())), .none⟩
theorem ok_math_bits_Len64 : FnT Try.prog 76 g_math_bits_Len64 :=
  fnT (T := T) (TU := TU) (Γ := []) T_ok (by rfl) (ctx_nil) Try.func76 rfl rfl rfl rfl (fun x => x.2.1) (fun _ => rfl)
    (.two .leaf (.cut ⟨25, [(0, .one (.d (.int .u64))), (2, .one (.d (.int .i64)))], [], []⟩ ⟨fun x => (x.1.1.1, x.1.2.1.1), fun v => (((v.1, ()), ((v.2, ()), ())), (), ()), fun _ => rfl⟩ (fun v => F_math_bits_Len64_c1 v.1 v.2) .leaf (.cut ⟨25, [(0, .one (.d (.int .u64))), (2, .one (.d (.int .i64)))], [], []⟩ ⟨fun x => (x.1.1.1, x.1.2.1.1), fun v => (((v.1, ()), ((v.2, ()), ())), (), ()), fun _ => rfl⟩ (fun v => F_math_bits_Len64_c2 v.1 v.2) .leaf (.cut ⟨25, [(0, .one (.d (.int .u64))), (2, .one (.d (.int .i64)))], [], []⟩ ⟨fun x => (x.1.1.1, x.1.2.1.1), fun v => (((v.1, ()), ((v.2, ()), ())), (), ()), fun _ => rfl⟩ (fun v => F_math_bits_Len64_c3 v.1 v.2) .leaf .leaf))))
    (⟨trivial, ⟨trivial, ⟨trivial, ⟨trivial, trivial, fun v => by kernel_rfl⟩, fun v => by kernel_rfl⟩, fun v => by kernel_rfl⟩⟩) (fun a => by kernel_rfl)

noncomputable def g_math_bits_Len : TFn := ⟨.cons (.c (.d (.int .u64))) .nil, .nil, .cons (.c (.d (.int .i64))) .nil, Int, fun a => F_math_bits_Len a.1, fun r => ((), (r, ())), .none⟩
theorem ok_math_bits_Len : FnT Try.prog 51 g_math_bits_Len :=
  fnT (T := T) (TU := TU) (Γ := [(76, g_math_bits_Len64)]) T_ok (by rfl) (ctx_cons ok_math_bits_Len64 ctx_nil) Try.func51 rfl rfl rfl rfl (fun x => x.2.1) (fun _ => rfl)
    (.leaf)
    (trivial) (fun a => by kernel_rfl)

noncomputable def g_merkle_half : TFn := ⟨.cons (.c (.d (.int .i64))) .nil, .nil, .cons (.c (.d (.int .i64))) .nil, Int, fun a => F_merkle_half a.1, fun r => ((), (r, ())), .none⟩
theorem ok_merkle_half : FnT Try.prog 58 g_merkle_half :=
  fnT (T := T) (TU := TU) (Γ := [(51, g_math_bits_Len)]) T_ok (by rfl) (ctx_cons ok_math_bits_Len ctx_nil) Try.func58 rfl rfl rfl rfl (fun x => x.2.1) (fun _ => rfl)
    (.leaf)
    (trivial) (fun a => by kernel_rfl)

noncomputable def g_merkle_Inner : TFn := ⟨.cons (.agg (.cons (.d (.arr 32 .byte)) .nil)) (.cons (.agg (.cons (.d (.arr 32 .byte)) .nil)) .nil), .nil, .cons (.agg (.cons (.d (.arr 32 .byte)) .nil)) .nil, Vector UInt8 32, fun a => F_merkle_Inner a.1.1 a.2.1.1, fun r => ((), ((r, ()), ())), .none⟩
theorem ok_merkle_Inner : FnT Try.prog 59 g_merkle_Inner :=
  fnT (T := T) (TU := TU) (Γ := [(81, g_sha_New), (82, g_sha_Digest_Write), (83, g_sha_Digest_Sum)]) T_ok (by rfl) (ctx_cons ok_sha_New (ctx_cons ok_sha_Digest_Write (ctx_cons ok_sha_Digest_Sum ctx_nil))) Try.func59 rfl rfl rfl rfl (fun x => x.2.1.1) (fun _ => rfl)
    (.leaf)
    (trivial) (fun a => by kernel_rfl)

noncomputable def g_merkle_Root (n : Nat) : TFn := ⟨.cons (.c (.d (.sl (.sl .byte)))) .nil, .nil, .cons (.agg (.cons (.d (.arr 32 .byte)) .nil)) .nil, Vector UInt8 32, fun a => F_merkle_Root n a.1, fun r => ((), ((r, ()), ())), .none⟩
theorem ok_merkle_Root : (n : Nat) → FnT Try.prog 45 (g_merkle_Root n)
  | 0 => fnT_none Try.func45 rfl rfl rfl rfl (fun _ => rfl)
  | n + 1 =>
  fnT (T := T) (TU := TU) (Γ := [(45, g_merkle_Root n), (56, g_sha_Sum), (57, g_merkle_Leaf), (58, g_merkle_half), (59, g_merkle_Inner)]) T_ok (by rfl) (ctx_cons (ok_merkle_Root n) (ctx_cons ok_sha_Sum (ctx_cons ok_merkle_Leaf (ctx_cons ok_merkle_half (ctx_cons ok_merkle_Inner ctx_nil))))) Try.func45 rfl rfl rfl rfl (fun x => x.2.1.1) (fun _ => rfl)
    (.leaf)
    (trivial) (fun a => by kernel_rfl)

noncomputable def g_ledger_Digest : TFn := ⟨.cons (.agg (.cons (.d U_api_Ledger) .nil)) .nil, .nil, .cons (.agg (.cons (.d (.arr 32 .byte)) .nil)) .nil, Vector UInt8 32, fun a => F_ledger_Digest a.1.1, fun r => ((), ((r, ()), ())), .none⟩
theorem ok_ledger_Digest : FnT Try.prog 25 g_ledger_Digest :=
  fnT (T := T) (TU := TU) (Γ := [(44, g_ledger_leaf), (45, g_merkle_Root FUEL)]) T_ok (by rfl) (ctx_cons ok_ledger_leaf (ctx_cons (ok_merkle_Root FUEL) ctx_nil)) Try.func25 rfl rfl rfl rfl (fun x => x.2.1.1) (fun _ => rfl)
    (.two .leaf (.two .leaf (.cut ⟨39, [(1, .one (.ptr 1000000 0)), (2, .one (.ptr 1000001 0)), (3, .one (.row 1000000))], [(1000000, [.d U_api_Ledger]), (1000001, [.d (.arr 32 .byte)])], [(1000000, (.sl .byte), 52, false)]⟩ ⟨fun x => (x.2.1.1.1, x.2.1.2.1.1, x.2.2.1), fun v => (((), ((), ((), ()))), ((v.1, ()), ((v.2.1, ()), ())), (v.2.2, ())), fun _ => rfl⟩ (fun v => F_ledger_Digest_c1 v.1 v.2.1 v.2.2) (.two .leaf (.one (.loop ⟨39, [(1, .one (.ptr 1000000 0)), (2, .one (.ptr 1000001 0)), (3, .one (.row 1000000)), (7, .one (.d (.sl U_api_Account))), (8, .one (.d (.int .i64))), (9, .one (.d (.int .i64)))], [(1000000, [.d U_api_Ledger]), (1000001, [.d (.arr 32 .byte)])], [(1000000, (.sl .byte), 52, false)]⟩ ⟨fun x => (x.1.2.2.2.1.1, x.1.2.2.2.2.1.1, x.1.2.2.2.2.2.1.1, x.2.1.1.1, x.2.1.2.1.1, x.2.2.1), fun v => (((), ((), ((), ((v.1, ()), ((v.2.1, ()), ((v.2.2.1, ()), ())))))), ((v.2.2.2.1, ()), ((v.2.2.2.2.1, ()), ())), (v.2.2.2.2.2, ())), fun _ => rfl⟩ (fun v => F_ledger_Digest_l2 v.1 v.2.1 v.2.2.1 v.2.2.2.1 v.2.2.2.2.1 v.2.2.2.2.2) .leaf))) .leaf)))
    (⟨trivial, ⟨trivial, ⟨⟨trivial, ⟨trivial, fun v => by kernel_rfl⟩⟩, trivial, fun v => by kernel_rfl⟩⟩⟩) (fun a => by kernel_rfl)

noncomputable def g_mempoolref1_right : TFn := ⟨.cons (.agg (.cons (.d U_api_Field) .nil)) .nil, .nil, .cons (.c (.d .bool)) .nil, Bool, fun a => F_mempoolref1_right a.1.1, fun r => ((), (r, ())), .none⟩
theorem ok_mempoolref1_right : FnT Try.prog 84 g_mempoolref1_right :=
  fnT (T := T) (TU := TU) (Γ := []) T_ok (by rfl) (ctx_nil) Try.func84 rfl rfl rfl rfl (fun x => x.2.1) (fun _ => rfl)
    (.leaf)
    (trivial) (fun a => by kernel_rfl)

noncomputable def g_mempoolref1_Varint : TFn := ⟨.cons (.c (.d (.sl .byte))) (.cons (.c (.d (.int .u64))) .nil), .nil, .cons (.c (.row .byte 5)) .nil, List UInt8, fun a => F_mempoolref1_Varint a.1 a.2.1, fun r => ((), (r, ())), .none⟩
theorem ok_mempoolref1_Varint : FnT Try.prog 85 g_mempoolref1_Varint :=
  fnT (T := T) (TU := TU) (Γ := []) T_ok (by rfl) (ctx_nil) Try.func85 rfl rfl rfl rfl (fun x => x.2.1) (fun _ => rfl)
    (.two .leaf (.two .leaf (.cut ⟨24, [(1, .one (.d (.int .u64))), (5, .one (.row 1000000))], [], [(1000000, .byte, 5, false)]⟩ ⟨fun x => (x.1.1.1, x.2.2.1), fun v => (((v.1, ()), ((), ())), (), (v.2, ())), fun _ => rfl⟩ (fun v => F_mempoolref1_Varint_c1 v.1 v.2) (.one (.loop ⟨24, [(1, .one (.d (.int .u64))), (5, .one (.row 1000000))], [], [(1000000, .byte, 5, false)]⟩ ⟨fun x => (x.1.1.1, x.2.2.1), fun v => (((v.1, ()), ((), ())), (), (v.2, ())), fun _ => rfl⟩ (fun v => F_mempoolref1_Varint_l2 v.1 v.2) .leaf)) .leaf)))
    (⟨trivial, ⟨trivial, ⟨⟨trivial, fun v => by kernel_rfl⟩, trivial, fun v => by kernel_rfl⟩⟩⟩) (fun a => by kernel_rfl)

noncomputable def g_mempoolref1_Field : TFn := ⟨.cons (.c (.d (.sl .byte))) (.cons (.agg (.cons (.d U_api_Field) .nil)) .nil), .nil, .cons (.c (.row .byte 5)) (.cons (.c (.d (.int .i64))) .nil), List UInt8 × Int, fun a => F_mempoolref1_Field a.1 a.2.1.1, fun r => ((), (r.1, (r.2, ()))), .none⟩
theorem ok_mempoolref1_Field : FnT Try.prog 60 g_mempoolref1_Field :=
  fnT (T := T) (TU := TU) (Γ := [(84, g_mempoolref1_right), (85, g_mempoolref1_Varint)]) T_ok (by rfl) (ctx_cons ok_mempoolref1_right (ctx_cons ok_mempoolref1_Varint ctx_nil)) Try.func60 rfl rfl rfl rfl (fun x => (x.2.1, x.2.2.1)) (fun _ => rfl)
    (.leaf)
    (trivial) (fun a => by kernel_rfl)

noncomputable def g_mempoolref4_Message : TFn := ⟨.cons (.c (.d (.sl U_api_Field))) .nil, .nil, .cons (.c (.row .byte 5)) .nil, List UInt8, fun a => F_mempoolref4_Message a.1, fun r => ((), (r, ())), .none⟩
theorem ok_mempoolref4_Message : FnT Try.prog 46 g_mempoolref4_Message :=
  fnT (T := T) (TU := TU) (Γ := [(60, g_mempoolref1_Field)]) T_ok (by rfl) (ctx_cons ok_mempoolref1_Field ctx_nil) Try.func46 rfl rfl rfl rfl (fun x => x.2.1) (fun _ => rfl)
    (.two .leaf (.two .leaf (.two (.two .leaf (.one (.loop ⟨20, [(3, .one (.row 1000000)), (6, .one (.d (.sl U_api_Field))), (7, .one (.d (.int .i64))), (8, .one (.d (.int .i64)))], [], [(1000000, .byte, 5, false)]⟩ ⟨fun x => (x.1.2.1.1, x.1.2.2.1.1, x.1.2.2.2.1.1, x.2.2.1), fun v => (((), ((v.1, ()), ((v.2.1, ()), ((v.2.2.1, ()), ())))), (), (v.2.2.2, ())), fun _ => rfl⟩ (fun v => F_mempoolref4_Message_l1 v.1 v.2.1 v.2.2.1 v.2.2.2) .leaf))) .leaf)))
    (⟨trivial, ⟨trivial, ⟨⟨trivial, ⟨trivial, fun v => by kernel_rfl⟩⟩, trivial⟩⟩⟩) (fun a => by kernel_rfl)

noncomputable def g_mempoolref4_turn : TFn := ⟨.cons (.c (.d (.int .u32))) (.cons (.c (.d (.int .i64))) .nil), .nil, .cons (.c (.d (.int .u32))) .nil, Int, fun a => F_mempoolref4_turn a.1 a.2.1, fun r => ((), (r, ())), .none⟩
theorem ok_mempoolref4_turn : FnT Try.prog 95 g_mempoolref4_turn :=
  fnT (T := T) (TU := TU) (Γ := []) T_ok (by rfl) (ctx_nil) Try.func95 rfl rfl rfl rfl (fun x => x.2.1) (fun _ => rfl)
    (.leaf)
    (trivial) (fun a => by kernel_rfl)

noncomputable def g_mempoolref4_constants : TFn := ⟨.nil, .nil, .cons (.agg (.cons (.d (.arr 64 (.int .u32))) .nil)) .nil, Vector Int 64, fun _ => F_mempoolref4_constants, fun r => ((), ((r, ()), ())), .none⟩
theorem ok_mempoolref4_constants : FnT Try.prog 96 g_mempoolref4_constants :=
  fnT (T := T) (TU := TU) (Γ := []) T_ok (by rfl) (ctx_nil) Try.func96 rfl rfl rfl rfl (fun x => x.2.1.1) (fun _ => rfl)
    (.leaf)
    (trivial) (fun a => by kernel_rfl)

noncomputable def g_mempoolref4_block : TFn := ⟨.cons (.agg (.cons (.d (.arr 8 (.int .u32))) .nil)) (.cons (.c (.d (.sl .byte))) .nil), .nil, .cons (.agg (.cons (.d (.arr 8 (.int .u32))) .nil)) .nil, Vector Int 8, fun a => F_mempoolref4_block a.1.1 a.2.1, fun r => ((), ((r, ()), ())), .none⟩
theorem ok_mempoolref4_block : FnT Try.prog 86 g_mempoolref4_block :=
  fnT (T := T) (TU := TU) (Γ := [(95, g_mempoolref4_turn), (96, g_mempoolref4_constants)]) T_ok (by rfl) (ctx_cons ok_mempoolref4_turn (ctx_cons ok_mempoolref4_constants ctx_nil)) Try.func86 rfl rfl rfl rfl (fun x => x.2.1.1) (fun _ => rfl)
    (.two .leaf (.two .leaf (.cut ⟨193, [(2, .one (.ptr 1000000 0)), (4, .one (.ptr 1000001 0)), (5, .one (.ptr 1000002 0))], [(1000000, [.d (.arr 8 (.int .u32))]), (1000001, [.d (.arr 8 (.int .u32))]), (1000002, [.d (.arr 64 (.int .u32))])], []⟩ ⟨fun x => (x.2.1.1.1, x.2.1.2.1.1, x.2.1.2.2.1.1), fun v => (((), ((), ((), ()))), ((v.1, ()), ((v.2.1, ()), ((v.2.2, ()), ()))), ()), fun _ => rfl⟩ (fun v => F_mempoolref4_block_c1 v.1 v.2.1 v.2.2) (.two .leaf (.one (.loop ⟨193, [(1, .one (.d (.sl .byte))), (2, .one (.ptr 1000000 0)), (4, .one (.ptr 1000001 0)), (5, .one (.ptr 1000002 0)), (6, .one (.d (.int .i64)))], [(1000000, [.d (.arr 8 (.int .u32))]), (1000001, [.d (.arr 8 (.int .u32))]), (1000002, [.d (.arr 64 (.int .u32))])], []⟩ ⟨fun x => (x.1.1.1, x.1.2.2.2.2.1.1, x.2.1.1.1, x.2.1.2.1.1, x.2.1.2.2.1.1), fun v => (((v.1, ()), ((), ((), ((), ((v.2.1, ()), ()))))), ((v.2.2.1, ()), ((v.2.2.2.1, ()), ((v.2.2.2.2, ()), ()))), ()), fun _ => rfl⟩ (fun v => F_mempoolref4_block_l7 v.1 v.2.1 v.2.2.1 v.2.2.2.1 v.2.2.2.2) .leaf))) (.cut ⟨193, [(2, .one (.ptr 1000000 0)), (4, .one (.ptr 1000001 0)), (5, .one (.ptr 1000002 0))], [(1000000, [.d (.arr 8 (.int .u32))]), (1000001, [.d (.arr 8 (.int .u32))]), (1000002, [.d (.arr 64 (.int .u32))])], []⟩ ⟨fun x => (x.2.1.1.1, x.2.1.2.1.1, x.2.1.2.2.1.1), fun v => (((), ((), ((), ()))), ((v.1, ()), ((v.2.1, ()), ((v.2.2, ()), ()))), ()), fun _ => rfl⟩ (fun v => F_mempoolref4_block_c2 v.1 v.2.1 v.2.2) (.two .leaf (.one (.loop ⟨193, [(2, .one (.ptr 1000000 0)), (4, .one (.ptr 1000001 0)), (5, .one (.ptr 1000002 0)), (7, .one (.d (.int .i64)))], [(1000000, [.d (.arr 8 (.int .u32))]), (1000001, [.d (.arr 8 (.int .u32))]), (1000002, [.d (.arr 64 (.int .u32))])], []⟩ ⟨fun x => (x.1.2.2.2.1.1, x.2.1.1.1, x.2.1.2.1.1, x.2.1.2.2.1.1), fun v => (((), ((), ((), ((v.1, ()), ())))), ((v.2.1, ()), ((v.2.2.1, ()), ((v.2.2.2, ()), ()))), ()), fun _ => rfl⟩ (fun v => F_mempoolref4_block_l6 v.1 v.2.1 v.2.2.1 v.2.2.2) .leaf))) (.two .leaf (.two .leaf (.cut ⟨193, [(2, .one (.ptr 1000000 0)), (4, .one (.ptr 1000001 0)), (11, .one (.ptr 1000002 0))], [(1000000, [.d (.arr 8 (.int .u32))]), (1000001, [.d (.arr 8 (.int .u32))]), (1000002, [.d (.arr 8 (.int .u32))])], []⟩ ⟨fun x => (x.2.1.1.1, x.2.1.2.1.1, x.2.1.2.2.1.1), fun v => (((), ((), ((), ()))), ((v.1, ()), ((v.2.1, ()), ((v.2.2, ()), ()))), ()), fun _ => rfl⟩ (fun v => F_mempoolref4_block_c3 v.1 v.2.1 v.2.2) (.two .leaf (.one (.loop ⟨193, [(2, .one (.ptr 1000000 0)), (4, .one (.ptr 1000001 0)), (5, .one (.ptr 1000002 0)), (10, .one (.ptr 1000003 0)), (11, .one (.ptr 1000004 0)), (12, .one (.d (.int .i64)))], [(1000000, [.d (.arr 8 (.int .u32))]), (1000001, [.d (.arr 8 (.int .u32))]), (1000002, [.d (.arr 64 (.int .u32))]), (1000003, [.d (.arr 64 (.int .u32))]), (1000004, [.d (.arr 8 (.int .u32))])], []⟩ ⟨fun x => (x.1.2.2.2.2.2.1.1, x.2.1.1.1, x.2.1.2.1.1, x.2.1.2.2.1.1, x.2.1.2.2.2.1.1, x.2.1.2.2.2.2.1.1), fun v => (((), ((), ((), ((), ((), ((v.1, ()), ())))))), ((v.2.1, ()), ((v.2.2.1, ()), ((v.2.2.2.1, ()), ((v.2.2.2.2.1, ()), ((v.2.2.2.2.2, ()), ()))))), ()), fun _ => rfl⟩ (fun v => F_mempoolref4_block_l5 v.1 v.2.1 v.2.2.1 v.2.2.2.1 v.2.2.2.2.1 v.2.2.2.2.2) .leaf))) (.two (.two .leaf (.one (.loop ⟨193, [(2, .one (.ptr 1000000 0)), (4, .one (.ptr 1000001 0)), (11, .one (.ptr 1000002 0)), (180, .one (.d (.int .i64)))], [(1000000, [.d (.arr 8 (.int .u32))]), (1000001, [.d (.arr 8 (.int .u32))]), (1000002, [.d (.arr 8 (.int .u32))])], []⟩ ⟨fun x => (x.1.2.2.2.1.1, x.2.1.1.1, x.2.1.2.1.1, x.2.1.2.2.1.1), fun v => (((), ((), ((), ((v.1, ()), ())))), ((v.2.1, ()), ((v.2.2.1, ()), ((v.2.2.2, ()), ()))), ()), fun _ => rfl⟩ (fun v => F_mempoolref4_block_l4 v.1 v.2.1 v.2.2.1 v.2.2.2) .leaf))) .leaf))))))))
    (⟨trivial, ⟨trivial, ⟨⟨trivial, ⟨trivial, fun v => by kernel_rfl⟩⟩, ⟨⟨trivial, ⟨trivial, fun v => by kernel_rfl⟩⟩, ⟨trivial, ⟨trivial, ⟨⟨trivial, ⟨trivial, fun v => by kernel_rfl⟩⟩, ⟨⟨trivial, ⟨trivial, fun v => by kernel_rfl⟩⟩, trivial⟩, fun v => by kernel_rfl⟩⟩⟩, fun v => by kernel_rfl⟩, fun v => by kernel_rfl⟩⟩⟩) (fun a => by kernel_rfl)

noncomputable def g_mempoolref4_Sha : TFn := ⟨.cons (.c (.d (.sl .byte))) .nil, .nil, .cons (.agg (.cons (.d (.arr 32 .byte)) .nil)) .nil, Vector UInt8 32, fun a => F_mempoolref4_Sha a.1, fun r => ((), ((r, ()), ())), .none⟩
theorem ok_mempoolref4_Sha : FnT Try.prog 61 g_mempoolref4_Sha :=
  fnT (T := T) (TU := TU) (Γ := [(86, g_mempoolref4_block)]) T_ok (by rfl) (ctx_cons ok_mempoolref4_block ctx_nil) Try.func61 rfl rfl rfl rfl (fun x => x.2.1.1) (fun _ => rfl)
    (.two .leaf (.two .leaf (.cut ⟨69, [(0, .one (.d (.sl .byte))), (2, .one (.ptr 1000000 0)), (3, .one (.row 1000000))], [(1000000, [.d (.arr 32 .byte)])], [(1000000, .byte, 5, false)]⟩ ⟨fun x => (x.1.1.1, x.2.1.1.1, x.2.2.1), fun v => (((v.1, ()), ((), ((), ()))), ((v.2.1, ()), ()), (v.2.2, ())), fun _ => rfl⟩ (fun v => F_mempoolref4_Sha_c1 v.1 v.2.1 v.2.2) (.one (.loop ⟨69, [(0, .one (.d (.sl .byte))), (2, .one (.ptr 1000000 0)), (3, .one (.row 1000000))], [(1000000, [.d (.arr 32 .byte)])], [(1000000, .byte, 5, false)]⟩ ⟨fun x => (x.1.1.1, x.2.1.1.1, x.2.2.1), fun v => (((v.1, ()), ((), ((), ()))), ((v.2.1, ()), ()), (v.2.2, ())), fun _ => rfl⟩ (fun v => F_mempoolref4_Sha_l7 v.1 v.2.1 v.2.2) .leaf)) (.two .leaf (.cut ⟨69, [(2, .one (.ptr 1000000 0)), (3, .one (.row 1000000))], [(1000000, [.d (.arr 32 .byte)])], [(1000000, .byte, 5, false)]⟩ ⟨fun x => (x.2.1.1.1, x.2.2.1), fun v => (((), ((), ())), ((v.1, ()), ()), (v.2, ())), fun _ => rfl⟩ (fun v => F_mempoolref4_Sha_c2 v.1 v.2) (.two .leaf (.one (.loop ⟨69, [(2, .one (.ptr 1000000 0)), (3, .one (.row 1000000)), (4, .one (.d (.int .u64))), (5, .one (.d (.int .i64)))], [(1000000, [.d (.arr 32 .byte)])], [(1000000, .byte, 5, false)]⟩ ⟨fun x => (x.1.2.2.1.1, x.1.2.2.2.1.1, x.2.1.1.1, x.2.2.1), fun v => (((), ((), ((v.1, ()), ((v.2.1, ()), ())))), ((v.2.2.1, ()), ()), (v.2.2.2, ())), fun _ => rfl⟩ (fun v => F_mempoolref4_Sha_l6 v.1 v.2.1 v.2.2.1 v.2.2.2) .leaf))) (.two .leaf (.cut ⟨69, [(2, .one (.ptr 1000000 0)), (6, .one (.ptr 1000001 0))], [(1000000, [.d (.arr 32 .byte)]), (1000001, [.d (.arr 8 (.int .u32))])], []⟩ ⟨fun x => (x.2.1.1.1, x.2.1.2.1.1), fun v => (((), ((), ())), ((v.1, ()), ((v.2, ()), ())), ()), fun _ => rfl⟩ (fun v => F_mempoolref4_Sha_c3 v.1 v.2) (.two .leaf (.one (.loop ⟨69, [(2, .one (.ptr 1000000 0)), (3, .one (.row 1000000)), (6, .one (.ptr 1000001 0)), (7, .one (.d (.int .i64)))], [(1000000, [.d (.arr 32 .byte)]), (1000001, [.d (.arr 8 (.int .u32))])], [(1000000, .byte, 5, true)]⟩ ⟨fun x => (x.1.2.2.2.1.1, x.2.1.1.1, x.2.1.2.1.1, x.2.2.1), fun v => (((), ((), ((), ((v.1, ()), ())))), ((v.2.1, ()), ((v.2.2.1, ()), ())), (v.2.2.2, ())), fun _ => rfl⟩ (fun v => F_mempoolref4_Sha_l5 v.1 v.2.1 v.2.2.1 v.2.2.2) .leaf))) (.two .leaf (.two (.two .leaf (.one (.loop ⟨69, [(2, .one (.ptr 1000000 0)), (6, .one (.ptr 1000001 0)), (8, .one (.ptr 1000002 0)), (52, .one (.d (.int .i64)))], [(1000000, [.d (.arr 32 .byte)]), (1000001, [.d (.arr 8 (.int .u32))]), (1000002, [.d (.arr 32 .byte)])], []⟩ ⟨fun x => (x.1.2.2.2.1.1, x.2.1.1.1, x.2.1.2.1.1, x.2.1.2.2.1.1), fun v => (((), ((), ((), ((v.1, ()), ())))), ((v.2.1, ()), ((v.2.2.1, ()), ((v.2.2.2, ()), ()))), ()), fun _ => rfl⟩ (fun v => F_mempoolref4_Sha_l4 v.1 v.2.1 v.2.2.1 v.2.2.2) .leaf))) .leaf)))))))))
    (⟨trivial, ⟨trivial, ⟨⟨trivial, fun v => by kernel_rfl⟩, ⟨trivial, ⟨⟨trivial, ⟨trivial, fun v => by kernel_rfl⟩⟩, ⟨trivial, ⟨⟨trivial, ⟨trivial, fun v => by kernel_rfl⟩⟩, ⟨trivial, ⟨⟨trivial, ⟨trivial, fun v => by kernel_rfl⟩⟩, trivial⟩⟩, fun v => by kernel_rfl⟩⟩, fun v => by kernel_rfl⟩⟩, fun v => by kernel_rfl⟩⟩⟩) (fun a => by kernel_rfl)

noncomputable def g_mempoolref4_Leaf : TFn := ⟨.cons (.c (.d (.sl .byte))) .nil, .nil, .cons (.agg (.cons (.d (.arr 32 .byte)) .nil)) .nil, Vector UInt8 32, fun a => F_mempoolref4_Leaf a.1, fun r => ((), ((r, ()), ())), .none⟩
theorem ok_mempoolref4_Leaf : FnT Try.prog 62 g_mempoolref4_Leaf :=
  fnT (T := T) (TU := TU) (Γ := [(61, g_mempoolref4_Sha)]) T_ok (by rfl) (ctx_cons ok_mempoolref4_Sha ctx_nil) Try.func62 rfl rfl rfl rfl (fun x => x.2.1.1) (fun _ => rfl)
    (.leaf)
    (trivial) (fun a => by kernel_rfl)

noncomputable def g_mempoolref4_half : TFn := ⟨.cons (.c (.d (.int .i64))) .nil, .nil, .cons (.c (.d (.int .i64))) .nil, Int, fun a => F_mempoolref4_half a.1, fun r => ((), (r, ())), .none⟩
theorem ok_mempoolref4_half : FnT Try.prog 63 g_mempoolref4_half :=
  fnT (T := T) (TU := TU) (Γ := []) T_ok (by rfl) (ctx_nil) Try.func63 rfl rfl rfl rfl (fun x => x.2.1) (fun _ => rfl)
    (.two .leaf (.two .leaf (.two (.one (.loop ⟨12, [(0, .one (.d (.int .i64))), (3, .one (.d (.int .i64)))], [], []⟩ ⟨fun x => (x.1.1.1, x.1.2.1.1), fun v => (((v.1, ()), ((v.2, ()), ())), (), ()), fun _ => rfl⟩ (fun v => F_mempoolref4_half_l1 v.1 v.2) .leaf)) .leaf)))
    (⟨trivial, ⟨trivial, ⟨⟨trivial, fun v => by kernel_rfl⟩, trivial⟩⟩⟩) (fun a => by kernel_rfl)

noncomputable def g_mempoolref4_Inner : TFn := ⟨.cons (.agg (.cons (.d (.arr 32 .byte)) .nil)) (.cons (.agg (.cons (.d (.arr 32 .byte)) .nil)) .nil), .nil, .cons (.agg (.cons (.d (.arr 32 .byte)) .nil)) .nil, Vector UInt8 32, fun a => F_mempoolref4_Inner a.1.1 a.2.1.1, fun r => ((), ((r, ()), ())), .none⟩
theorem ok_mempoolref4_Inner : FnT Try.prog 64 g_mempoolref4_Inner :=
  fnT (T := T) (TU := TU) (Γ := [(61, g_mempoolref4_Sha)]) T_ok (by rfl) (ctx_cons ok_mempoolref4_Sha ctx_nil) Try.func64 rfl rfl rfl rfl (fun x => x.2.1.1) (fun _ => rfl)
    (.leaf)
    (trivial) (fun a => by kernel_rfl)

noncomputable def g_mempoolref4_Root (n : Nat) : TFn := ⟨.cons (.c (.d (.sl (.sl .byte)))) .nil, .nil, .cons (.agg (.cons (.d (.arr 32 .byte)) .nil)) .nil, Vector UInt8 32, fun a => F_mempoolref4_Root n a.1, fun r => ((), ((r, ()), ())), .none⟩
theorem ok_mempoolref4_Root : (n : Nat) → FnT Try.prog 47 (g_mempoolref4_Root n)
  | 0 => fnT_none Try.func47 rfl rfl rfl rfl (fun _ => rfl)
  | n + 1 =>
  fnT (T := T) (TU := TU) (Γ := [(47, g_mempoolref4_Root n), (61, g_mempoolref4_Sha), (62, g_mempoolref4_Leaf), (63, g_mempoolref4_half), (64, g_mempoolref4_Inner)]) T_ok (by rfl) (ctx_cons (ok_mempoolref4_Root n) (ctx_cons ok_mempoolref4_Sha (ctx_cons ok_mempoolref4_Leaf (ctx_cons ok_mempoolref4_half (ctx_cons ok_mempoolref4_Inner ctx_nil))))) Try.func47 rfl rfl rfl rfl (fun x => x.2.1.1) (fun _ => rfl)
    (.leaf)
    (trivial) (fun a => by kernel_rfl)

noncomputable def g_mempoolref10_DigestLedger : TFn := ⟨.cons (.agg (.cons (.d U_api_Ledger) .nil)) .nil, .nil, .cons (.agg (.cons (.d (.arr 32 .byte)) .nil)) .nil, Vector UInt8 32, fun a => F_mempoolref10_DigestLedger a.1.1, fun r => ((), ((r, ()), ())), .none⟩
theorem ok_mempoolref10_DigestLedger : FnT Try.prog 26 g_mempoolref10_DigestLedger :=
  fnT (T := T) (TU := TU) (Γ := [(46, g_mempoolref4_Message), (47, g_mempoolref4_Root FUEL)]) T_ok (by rfl) (ctx_cons ok_mempoolref4_Message (ctx_cons (ok_mempoolref4_Root FUEL) ctx_nil)) Try.func26 rfl rfl rfl rfl (fun x => x.2.1.1) (fun _ => rfl)
    (.two .leaf (.two .leaf (.cut ⟨38, [(1, .one (.ptr 1000000 0)), (2, .one (.ptr 1000001 0)), (3, .one (.row 1000000))], [(1000000, [.d U_api_Ledger]), (1000001, [.d (.arr 32 .byte)])], [(1000000, (.sl .byte), 52, false)]⟩ ⟨fun x => (x.2.1.1.1, x.2.1.2.1.1, x.2.2.1), fun v => (((), ((), ((), ()))), ((v.1, ()), ((v.2.1, ()), ())), (v.2.2, ())), fun _ => rfl⟩ (fun v => F_mempoolref10_DigestLedger_c1 v.1 v.2.1 v.2.2) (.two .leaf (.one (.loop ⟨38, [(1, .one (.ptr 1000000 0)), (2, .one (.ptr 1000001 0)), (3, .one (.row 1000000)), (7, .one (.d (.sl U_api_Account))), (8, .one (.d (.int .i64))), (9, .one (.d (.int .i64)))], [(1000000, [.d U_api_Ledger]), (1000001, [.d (.arr 32 .byte)])], [(1000000, (.sl .byte), 52, false)]⟩ ⟨fun x => (x.1.2.2.2.1.1, x.1.2.2.2.2.1.1, x.1.2.2.2.2.2.1.1, x.2.1.1.1, x.2.1.2.1.1, x.2.2.1), fun v => (((), ((), ((), ((v.1, ()), ((v.2.1, ()), ((v.2.2.1, ()), ())))))), ((v.2.2.2.1, ()), ((v.2.2.2.2.1, ()), ())), (v.2.2.2.2.2, ())), fun _ => rfl⟩ (fun v => F_mempoolref10_DigestLedger_l2 v.1 v.2.1 v.2.2.1 v.2.2.2.1 v.2.2.2.2.1 v.2.2.2.2.2) .leaf))) .leaf)))
    (⟨trivial, ⟨trivial, ⟨⟨trivial, ⟨trivial, fun v => by kernel_rfl⟩⟩, trivial, fun v => by kernel_rfl⟩⟩⟩) (fun a => by kernel_rfl)

noncomputable def g_mempoollaw11_LedgerDigests : TFn := ⟨.cons (.agg (.cons (.d U_api_Ledger) .nil)) (.cons (.c (.d (.sl (.int .i64)))) .nil), .nil, .cons (.c (.d .bool)) .nil, Bool, fun a => F_mempoollaw11_LedgerDigests a.1.1 a.2.1, fun r => ((), (r, ())), .none⟩
theorem ok_mempoollaw11_LedgerDigests : FnT Try.prog 8 g_mempoollaw11_LedgerDigests :=
  fnT (T := T) (TU := TU) (Γ := [(9, g_mempoollaw11_long), (10, g_mempoollaw11_big), (11, g_mempoollaw11_known), (12, g_mempoollaw11_made), (25, g_ledger_Digest), (26, g_mempoolref10_DigestLedger)]) T_ok (by rfl) (ctx_cons ok_mempoollaw11_long (ctx_cons ok_mempoollaw11_big (ctx_cons ok_mempoollaw11_known (ctx_cons ok_mempoollaw11_made (ctx_cons ok_ledger_Digest (ctx_cons ok_mempoolref10_DigestLedger ctx_nil)))))) Try.func8 rfl rfl rfl rfl (fun x => x.2.1) (fun _ => rfl)
    (.leaf)
    (trivial) (fun a => by kernel_rfl)

noncomputable def g_ledger_Genesis_1 : TFn := ⟨.cons (.agg (.cons (.d U_api_Account) .nil)) (.cons (.agg (.cons (.d U_api_Account) .nil)) .nil), .nil, .cons (.c (.d (.int .i64))) .nil, Int, fun a => F_ledger_Genesis_1 a.1.1 a.2.1.1, fun r => ((), (r, ())), .none⟩
theorem ok_ledger_Genesis_1 : FnT Try.prog 37 g_ledger_Genesis_1 :=
  fnT (T := T) (TU := TU) (Γ := [(38, g_cmp_Compare_string)]) T_ok (by rfl) (ctx_cons ok_cmp_Compare_string ctx_nil) Try.func37 rfl rfl rfl rfl (fun x => x.2.1) (fun _ => rfl)
    (.leaf)
    (trivial) (fun a => by kernel_rfl)

noncomputable def g_slices_Reverse_api_Account_api_Account : TFn := ⟨.cons (.rx U_api_Account 28) .nil, .rcons U_api_Account 28 .nil, .nil, List D_api_Account, fun a => F_slices_Reverse_api_Account_api_Account a.1, fun r => ((r, ()), ()), .none⟩
theorem ok_slices_Reverse_api_Account_api_Account : FnT Try.prog 92 g_slices_Reverse_api_Account_api_Account :=
  fnT (T := T) (TU := TU) (Γ := []) T_ok (by rfl) (ctx_nil) Try.func92 rfl rfl rfl rfl (fun x => x.1.1) (fun _ => rfl)
    (.two .leaf (.one (.loop ⟨28, [(0, .one (.row 1000000)), (2, .one (.d (.int .i64))), (3, .one (.d (.int .i64))), (28, .one (.row 1000000))], [], [(1000000, U_api_Account, 28, false)]⟩ ⟨fun x => (x.1.2.1.1, x.1.2.2.1.1, x.2.2.1), fun v => (((), ((v.1, ()), ((v.2.1, ()), ((), ())))), (), (v.2.2, ())), fun _ => rfl⟩ (fun v => F_slices_Reverse_api_Account_api_Account_l1 v.1 v.2.1 v.2.2) .leaf)))
    (⟨trivial, ⟨trivial, fun v => by kernel_rfl⟩⟩) (fun a => by kernel_rfl)

noncomputable def g_money_only : TFn := ⟨.cons (.c (.d (.int .u64))) (.cons (.c (.d .bool)) .nil), .nil, .cons (.c (.d (.int .u64))) (.cons (.c (.d .bool)) .nil), Int × Bool, fun a => F_money_only a.1 a.2.1, fun r => ((), (r.1, (r.2, ()))), .none⟩
theorem ok_money_only : FnT Try.prog 66 g_money_only :=
  fnT (T := T) (TU := TU) (Γ := []) T_ok (by rfl) (ctx_nil) Try.func66 rfl rfl rfl rfl (fun x => (x.2.1, x.2.2.1)) (fun _ => rfl)
    (.leaf)
    (trivial) (fun a => by kernel_rfl)

noncomputable def g_math_bits_Len32 : TFn := ⟨.cons (.c (.d (.int .u32))) .nil, .nil, .cons (.c (.d (.int .i64))) .nil, Int, fun a => F_math_bits_Len32 a.1, fun r => ((), (r, ())), .none⟩
theorem ok_math_bits_Len32 : FnT Try.prog 75 g_math_bits_Len32 :=
  fnT (T := T) (TU := TU) (Γ := []) T_ok (by rfl) (ctx_nil) Try.func75 rfl rfl rfl rfl (fun x => x.2.1) (fun _ => rfl)
    (.two .leaf (.cut ⟨19, [(0, .one (.d (.int .u32))), (2, .one (.d (.int .i64)))], [], []⟩ ⟨fun x => (x.1.1.1, x.1.2.1.1), fun v => (((v.1, ()), ((v.2, ()), ())), (), ()), fun _ => rfl⟩ (fun v => F_math_bits_Len32_c1 v.1 v.2) .leaf (.cut ⟨19, [(0, .one (.d (.int .u32))), (2, .one (.d (.int .i64)))], [], []⟩ ⟨fun x => (x.1.1.1, x.1.2.1.1), fun v => (((v.1, ()), ((v.2, ()), ())), (), ()), fun _ => rfl⟩ (fun v => F_math_bits_Len32_c2 v.1 v.2) .leaf .leaf)))
    (⟨trivial, ⟨trivial, ⟨trivial, trivial, fun v => by kernel_rfl⟩, fun v => by kernel_rfl⟩⟩) (fun a => by kernel_rfl)

noncomputable def g_slices_nextPowerOfTwo : TFn := ⟨.cons (.c (.d (.int .i64))) .nil, .nil, .cons (.c (.d (.int .u64))) .nil, Int, fun a => F_slices_nextPowerOfTwo a.1, fun r => ((), (r, ())), .none⟩
theorem ok_slices_nextPowerOfTwo : FnT Try.prog 88 g_slices_nextPowerOfTwo :=
  fnT (T := T) (TU := TU) (Γ := [(51, g_math_bits_Len)]) T_ok (by rfl) (ctx_cons ok_math_bits_Len ctx_nil) Try.func88 rfl rfl rfl rfl (fun x => x.2.1) (fun _ => rfl)
    (.leaf)
    (trivial) (fun a => by kernel_rfl)

noncomputable def g_slices_xorshift_Next : TFn := ⟨.cons (.bx (.cons (.d (.int .u64)) .nil)) .nil, .cons (.cons (.d (.int .u64)) .nil) .nil, .cons (.c (.d (.int .u64))) .nil, Int × Int, fun a => F_slices_xorshift_Next a.1.1, fun r => (((r.1, ()), ()), (r.2, ())), .none⟩
theorem ok_slices_xorshift_Next : FnT Try.prog 89 g_slices_xorshift_Next :=
  fnT (T := T) (TU := TU) (Γ := []) T_ok (by rfl) (ctx_nil) Try.func89 rfl rfl rfl rfl (fun x => (x.1.1.1, x.2.1)) (fun _ => rfl)
    (.leaf)
    (trivial) (fun a => by kernel_rfl)

end Go.Proofs.Ytfaceeglocjkbaa.Am
