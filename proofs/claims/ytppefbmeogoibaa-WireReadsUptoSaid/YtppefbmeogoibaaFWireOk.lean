/- The functions compute it: by the typed machine. No conditions. -/
import Derived.Test.YtppefbmeogoibaaFWire
import Derived.KernelRfl
import Derived.Test.YtppefbmeogoibaaL3KnownT
namespace Go.Proofs.Ytppefbmeogoibaa.Am
open Go
set_option maxRecDepth 100000
def g_mempoollaw3_big : TFn := ⟨.cons (.c (.d (.sl U_api_Field))) .nil, .nil, .cons (.c (.d .bool)) .nil, Bool, fun a => F_mempoollaw3_big a.1, fun r => ((), (r, ()))⟩
theorem ok_mempoollaw3_big : FnT Try.prog 20 g_mempoollaw3_big :=
  fnT (T := T) (TU := TU) (Γ := []) T_ok (by rfl) (ctx_nil) Try.func20 rfl rfl rfl rfl (fun x => x.2.1) (fun _ => rfl)
    (.two .leaf (.two .leaf (.two (.two .leaf (.one (.loop ⟨22, [(3, .one (.d (.int .i64))), (8, .one (.d (.sl U_api_Field))), (9, .one (.d (.int .i64))), (10, .one (.d (.int .i64)))], [], []⟩ ⟨fun x => (x.1.1.1, x.1.2.1.1, x.1.2.2.1.1, x.1.2.2.2.1.1), fun v => (((v.1, ()), ((v.2.1, ()), ((v.2.2.1, ()), ((v.2.2.2, ()), ())))), (), ()), fun _ => rfl⟩ (fun v => F_mempoollaw3_big_l1 v.1 v.2.1 v.2.2.1 v.2.2.2) .leaf))) .leaf)))
    (⟨trivial, ⟨trivial, ⟨⟨trivial, ⟨trivial, fun v => by kernel_rfl⟩⟩, trivial⟩⟩⟩) (fun a => by kernel_rfl)

def g_mempoollaw3_known : TFn := gTrue
theorem ok_mempoollaw3_known : FnT Try.prog 21 g_mempoollaw3_known := known_ok

def g_mempoollaw3_near : TFn := ⟨.cons (.agg (.cons (.d U_api_Field) .nil)) (.cons (.c (.d .byte)) .nil), .nil, .cons (.agg (.cons (.d U_api_Field) .nil)) .nil, D_api_Field, fun a => F_mempoollaw3_near a.1.1 a.2.1, fun r => ((), ((r, ()), ()))⟩
theorem ok_mempoollaw3_near : FnT Try.prog 23 g_mempoollaw3_near :=
  fnT (T := T) (TU := TU) (Γ := []) T_ok (by rfl) (ctx_nil) Try.func23 rfl rfl rfl rfl (fun x => x.2.1.1) (fun _ => rfl)
    (.two .leaf (.cut ⟨44, [(1, .one (.d .byte)), (2, .one (.ptr 1000000 0)), (4, .one (.ptr 1000001 0))], [(1000000, [.d U_api_Field]), (1000001, [.d U_api_Field])], []⟩ ⟨fun x => (x.1.1.1, x.2.1.1.1, x.2.1.2.1.1), fun v => (((v.1, ()), ((), ((), ()))), ((v.2.1, ()), ((v.2.2, ()), ())), ()), fun _ => rfl⟩ (fun v => F_mempoollaw3_near_c1 v.1 v.2.1 v.2.2) .leaf (.cut ⟨44, [(1, .one (.d .byte)), (2, .one (.ptr 1000000 0)), (4, .one (.ptr 1000001 0))], [(1000000, [.d U_api_Field]), (1000001, [.d U_api_Field])], []⟩ ⟨fun x => (x.1.1.1, x.2.1.1.1, x.2.1.2.1.1), fun v => (((v.1, ()), ((), ((), ()))), ((v.2.1, ()), ((v.2.2, ()), ())), ()), fun _ => rfl⟩ (fun v => F_mempoollaw3_near_c2 v.1 v.2.1 v.2.2) .leaf (.cut ⟨44, [(1, .one (.d .byte)), (2, .one (.ptr 1000000 0)), (4, .one (.ptr 1000001 0))], [(1000000, [.d U_api_Field]), (1000001, [.d U_api_Field])], []⟩ ⟨fun x => (x.1.1.1, x.2.1.1.1, x.2.1.2.1.1), fun v => (((v.1, ()), ((), ((), ()))), ((v.2.1, ()), ((v.2.2, ()), ())), ()), fun _ => rfl⟩ (fun v => F_mempoollaw3_near_c3 v.1 v.2.1 v.2.2) .leaf .leaf))))
    (⟨trivial, ⟨trivial, ⟨trivial, ⟨trivial, trivial, fun v => by kernel_rfl⟩, fun v => by kernel_rfl⟩, fun v => by kernel_rfl⟩⟩) (fun a => by kernel_rfl)

def g_mempoolref1_right : TFn := ⟨.cons (.agg (.cons (.d U_api_Field) .nil)) .nil, .nil, .cons (.c (.d .bool)) .nil, Bool, fun a => F_mempoolref1_right a.1.1, fun r => ((), (r, ()))⟩
theorem ok_mempoolref1_right : FnT Try.prog 32 g_mempoolref1_right :=
  fnT (T := T) (TU := TU) (Γ := []) T_ok (by rfl) (ctx_nil) Try.func32 rfl rfl rfl rfl (fun x => x.2.1) (fun _ => rfl)
    (.leaf)
    (trivial) (fun a => by kernel_rfl)

def g_mempoolref1_Varint : TFn := ⟨.cons (.c (.d (.sl .byte))) (.cons (.c (.d (.int .u64))) .nil), .nil, .cons (.c (.row .byte 5)) .nil, List UInt8, fun a => F_mempoolref1_Varint a.1 a.2.1, fun r => ((), (r, ()))⟩
theorem ok_mempoolref1_Varint : FnT Try.prog 15 g_mempoolref1_Varint :=
  fnT (T := T) (TU := TU) (Γ := []) T_ok (by rfl) (ctx_nil) Try.func15 rfl rfl rfl rfl (fun x => x.2.1) (fun _ => rfl)
    (.two .leaf (.two .leaf (.cut ⟨24, [(1, .one (.d (.int .u64))), (5, .one (.row 1000000))], [], [(1000000, .byte, 5, false)]⟩ ⟨fun x => (x.1.1.1, x.2.2.1), fun v => (((v.1, ()), ((), ())), (), (v.2, ())), fun _ => rfl⟩ (fun v => F_mempoolref1_Varint_c1 v.1 v.2) (.one (.loop ⟨24, [(1, .one (.d (.int .u64))), (5, .one (.row 1000000))], [], [(1000000, .byte, 5, false)]⟩ ⟨fun x => (x.1.1.1, x.2.2.1), fun v => (((v.1, ()), ((), ())), (), (v.2, ())), fun _ => rfl⟩ (fun v => F_mempoolref1_Varint_l2 v.1 v.2) .leaf)) .leaf)))
    (⟨trivial, ⟨trivial, ⟨⟨trivial, fun v => by kernel_rfl⟩, trivial, fun v => by kernel_rfl⟩⟩⟩) (fun a => by kernel_rfl)

def g_mempoolref1_Field : TFn := ⟨.cons (.c (.d (.sl .byte))) (.cons (.agg (.cons (.d U_api_Field) .nil)) .nil), .nil, .cons (.c (.row .byte 5)) (.cons (.c (.d (.int .i64))) .nil), List UInt8 × Int, fun a => F_mempoolref1_Field a.1 a.2.1.1, fun r => ((), (r.1, (r.2, ())))⟩
theorem ok_mempoolref1_Field : FnT Try.prog 22 g_mempoolref1_Field :=
  fnT (T := T) (TU := TU) (Γ := [(32, g_mempoolref1_right), (15, g_mempoolref1_Varint)]) T_ok (by rfl) (ctx_cons ok_mempoolref1_right (ctx_cons ok_mempoolref1_Varint ctx_nil)) Try.func22 rfl rfl rfl rfl (fun x => (x.2.1, x.2.2.1)) (fun _ => rfl)
    (.leaf)
    (trivial) (fun a => by kernel_rfl)

def g_varint_Read : TFn := ⟨.cons (.c (.d (.sl .byte))) .nil, .nil, .cons (.c (.d (.int .u64))) (.cons (.c (.d (.int .i64))) (.cons (.c (.d (.int .i64))) .nil)), Int × Int × Int, fun a => F_varint_Read a.1, fun r => ((), (r.1, (r.2.1, (r.2.2, ()))))⟩
theorem ok_varint_Read : FnT Try.prog 18 g_varint_Read :=
  fnT (T := T) (TU := TU) (Γ := []) T_ok (by rfl) (ctx_nil) Try.func18 rfl rfl rfl rfl (fun x => (x.2.1, x.2.2.1, x.2.2.2.1)) (fun _ => rfl)
    (.two .leaf (.two .leaf (.one (.loop ⟨52, [(0, .one (.d (.sl .byte))), (2, .one (.d (.int .u64))), (5, .one (.d (.int .i64)))], [], []⟩ ⟨fun x => (x.1.1.1, x.1.2.1.1, x.1.2.2.1.1), fun v => (((v.1, ()), ((v.2.1, ()), ((v.2.2, ()), ()))), (), ()), fun _ => rfl⟩ (fun v => F_varint_Read_l1 v.1 v.2.1 v.2.2) (.two (.one (.cut ⟨52, [(0, .one (.d (.sl .byte))), (2, .one (.d (.int .u64))), (5, .one (.d (.int .i64)))], [], []⟩ ⟨fun x => (x.1.1.1, x.1.2.1.1, x.1.2.2.1.1), fun v => (((v.1, ()), ((v.2.1, ()), ((v.2.2, ()), ()))), (), ()), fun _ => rfl⟩ (fun v => F_varint_Read_c2 v.1 v.2.1 v.2.2) (.one (.two .leaf (.two .leaf (.cut ⟨52, [(0, .one (.d (.sl .byte))), (2, .one (.d (.int .u64))), (5, .one (.d (.int .i64))), (13, .one (.d .bool))], [], []⟩ ⟨fun x => (x.1.1.1, x.1.2.1.1, x.1.2.2.1.1, x.1.2.2.2.1.1), fun v => (((v.1, ()), ((v.2.1, ()), ((v.2.2.1, ()), ((v.2.2.2, ()), ())))), (), ()), fun _ => rfl⟩ (fun v => F_varint_Read_c3 v.1 v.2.1 v.2.2.1 v.2.2.2) .leaf .leaf)))) .leaf)) .leaf)))))
    (⟨trivial, ⟨trivial, ⟨⟨⟨⟨trivial, ⟨trivial, ⟨trivial, trivial, fun v => by kernel_rfl⟩⟩⟩, trivial, fun v => by kernel_rfl⟩, trivial⟩, fun v => by kernel_rfl⟩⟩⟩) (fun a => by kernel_rfl)

def g_wire_read : TFn := ⟨.cons (.c (.d (.sl .byte))) .nil, .nil, .cons (.agg (.cons (.d U_api_Field) .nil)) (.cons (.c (.d (.int .i64))) (.cons (.c (.d (.int .i64))) .nil)), D_api_Field × Int × Int, fun a => F_wire_read a.1, fun r => ((), ((r.1, ()), (r.2.1, (r.2.2, ()))))⟩
theorem ok_wire_read : FnT Try.prog 33 g_wire_read :=
  fnT (T := T) (TU := TU) (Γ := [(18, g_varint_Read)]) T_ok (by rfl) (ctx_cons ok_varint_Read ctx_nil) Try.func33 rfl rfl rfl rfl (fun x => (x.2.1.1, x.2.2.1, x.2.2.2.1)) (fun _ => rfl)
    (.two .leaf (.two .leaf (.two .leaf (.two .leaf (.cut ⟨85, [(0, .one (.d (.sl .byte))), (2, .one (.ptr 1000000 0)), (3, .one (.d (.int .i64))), (6, .one (.d (.int .i64))), (7, .one (.d (.int .u64)))], [(1000000, [.d U_api_Field])], []⟩ ⟨fun x => (x.1.1.1, x.1.2.2.1.1, x.1.2.2.2.1.1, x.1.2.2.2.2.1.1, x.2.1.1.1), fun v => (((v.1, ()), ((), ((v.2.1, ()), ((v.2.2.1, ()), ((v.2.2.2.1, ()), ()))))), ((v.2.2.2.2, ()), ()), ()), fun _ => rfl⟩ (fun v => F_wire_read_c1 v.1 v.2.1 v.2.2.1 v.2.2.2.1 v.2.2.2.2) .leaf .leaf)))))
    (⟨trivial, ⟨trivial, ⟨trivial, ⟨trivial, ⟨trivial, trivial, fun v => by kernel_rfl⟩⟩⟩⟩⟩) (fun a => by kernel_rfl)

def g_wire_Fields : TFn := ⟨.cons (.c (.d (.sl .byte))) .nil, .nil, .cons (.c (.row U_api_Field 41)) (.cons (.c (.d (.int .i64))) (.cons (.c (.d (.int .i64))) .nil)), List D_api_Field × Int × Int, fun a => F_wire_Fields a.1, fun r => ((), (r.1, (r.2.1, (r.2.2, ()))))⟩
theorem ok_wire_Fields : FnT Try.prog 24 g_wire_Fields :=
  fnT (T := T) (TU := TU) (Γ := [(33, g_wire_read)]) T_ok (by rfl) (ctx_cons ok_wire_read ctx_nil) Try.func24 rfl rfl rfl rfl (fun x => (x.2.1, x.2.2.1, x.2.2.2.1)) (fun _ => rfl)
    (.two .leaf (.cut ⟨36, [(2, .one (.row 1000000))], [], [(1000000, U_api_Field, 41, false)]⟩ ⟨fun x => x.2.2.1, fun v => (((), ()), (), (v, ())), fun _ => rfl⟩ (fun v => F_wire_Fields_c1 v) (.one (.loop ⟨36, [(0, .one (.d (.sl .byte))), (2, .one (.row 1000000)), (3, .one (.d (.int .i64)))], [], [(1000000, U_api_Field, 41, false)]⟩ ⟨fun x => (x.1.1.1, x.1.2.2.1.1, x.2.2.1), fun v => (((v.1, ()), ((), ((v.2.1, ()), ()))), (), (v.2.2, ())), fun _ => rfl⟩ (fun v => F_wire_Fields_l2 v.1 v.2.1 v.2.2) .leaf)) .leaf))
    (⟨trivial, ⟨⟨trivial, fun v => by kernel_rfl⟩, trivial, fun v => by kernel_rfl⟩⟩) (fun a => by kernel_rfl)

def g_mempoolref1_Read : TFn := ⟨.cons (.c (.d (.sl .byte))) .nil, .nil, .cons (.c (.d (.int .u64))) (.cons (.c (.d (.int .i64))) (.cons (.c (.d (.int .i64))) .nil)), Int × Int × Int, fun a => F_mempoolref1_Read a.1, fun r => ((), (r.1, (r.2.1, (r.2.2, ()))))⟩
theorem ok_mempoolref1_Read : FnT Try.prog 19 g_mempoolref1_Read :=
  fnT (T := T) (TU := TU) (Γ := []) T_ok (by rfl) (ctx_nil) Try.func19 rfl rfl rfl rfl (fun x => (x.2.1, x.2.2.1, x.2.2.2.1)) (fun _ => rfl)
    (.two .leaf (.two .leaf (.two .leaf (.one (.loop ⟨53, [(0, .one (.d (.sl .byte))), (5, .one (.d (.int .u64))), (6, .one (.d (.int .i64)))], [], []⟩ ⟨fun x => (x.1.1.1, x.1.2.1.1, x.1.2.2.1.1), fun v => (((v.1, ()), ((v.2.1, ()), ((v.2.2, ()), ()))), (), ()), fun _ => rfl⟩ (fun v => F_mempoolref1_Read_l1 v.1 v.2.1 v.2.2) (.two (.one (.cut ⟨53, [(0, .one (.d (.sl .byte))), (5, .one (.d (.int .u64))), (6, .one (.d (.int .i64)))], [], []⟩ ⟨fun x => (x.1.1.1, x.1.2.1.1, x.1.2.2.1.1), fun v => (((v.1, ()), ((v.2.1, ()), ((v.2.2, ()), ()))), (), ()), fun _ => rfl⟩ (fun v => F_mempoolref1_Read_c2 v.1 v.2.1 v.2.2) (.one (.two .leaf (.two .leaf (.cut ⟨53, [(0, .one (.d (.sl .byte))), (5, .one (.d (.int .u64))), (6, .one (.d (.int .i64))), (14, .one (.d .bool))], [], []⟩ ⟨fun x => (x.1.1.1, x.1.2.1.1, x.1.2.2.1.1, x.1.2.2.2.1.1), fun v => (((v.1, ()), ((v.2.1, ()), ((v.2.2.1, ()), ((v.2.2.2, ()), ())))), (), ()), fun _ => rfl⟩ (fun v => F_mempoolref1_Read_c3 v.1 v.2.1 v.2.2.1 v.2.2.2) .leaf .leaf)))) .leaf)) .leaf))))))
    (⟨trivial, ⟨trivial, ⟨trivial, ⟨⟨⟨⟨trivial, ⟨trivial, ⟨trivial, trivial, fun v => by kernel_rfl⟩⟩⟩, trivial, fun v => by kernel_rfl⟩, trivial⟩, fun v => by kernel_rfl⟩⟩⟩⟩) (fun a => by kernel_rfl)

def g_mempoolref1_one : TFn := ⟨.cons (.c (.d (.sl .byte))) .nil, .nil, .cons (.agg (.cons (.d U_api_Field) .nil)) (.cons (.c (.d (.int .i64))) (.cons (.c (.d (.int .i64))) .nil)), D_api_Field × Int × Int, fun a => F_mempoolref1_one a.1, fun r => ((), ((r.1, ()), (r.2.1, (r.2.2, ()))))⟩
theorem ok_mempoolref1_one : FnT Try.prog 34 g_mempoolref1_one :=
  fnT (T := T) (TU := TU) (Γ := [(19, g_mempoolref1_Read)]) T_ok (by rfl) (ctx_cons ok_mempoolref1_Read ctx_nil) Try.func34 rfl rfl rfl rfl (fun x => (x.2.1.1, x.2.2.1, x.2.2.2.1)) (fun _ => rfl)
    (.two .leaf (.two .leaf (.two .leaf (.two .leaf (.cut ⟨98, [(0, .one (.d (.sl .byte))), (2, .one (.ptr 1000000 0)), (5, .one (.d (.int .u64))), (6, .one (.d (.int .i64))), (8, .one (.d (.int .i64)))], [(1000000, [.d U_api_Field])], []⟩ ⟨fun x => (x.1.1.1, x.1.2.2.1.1, x.1.2.2.2.1.1, x.1.2.2.2.2.1.1, x.2.1.1.1), fun v => (((v.1, ()), ((), ((v.2.1, ()), ((v.2.2.1, ()), ((v.2.2.2.1, ()), ()))))), ((v.2.2.2.2, ()), ()), ()), fun _ => rfl⟩ (fun v => F_mempoolref1_one_c1 v.1 v.2.1 v.2.2.1 v.2.2.2.1 v.2.2.2.2) .leaf .leaf)))))
    (⟨trivial, ⟨trivial, ⟨trivial, ⟨trivial, ⟨trivial, trivial, fun v => by kernel_rfl⟩⟩⟩⟩⟩) (fun a => by kernel_rfl)

def g_mempoolref1_Fields : TFn := ⟨.cons (.c (.d (.sl .byte))) .nil, .nil, .cons (.c (.row U_api_Field 41)) (.cons (.c (.d (.int .i64))) (.cons (.c (.d (.int .i64))) .nil)), List D_api_Field × Int × Int, fun a => F_mempoolref1_Fields a.1, fun r => ((), (r.1, (r.2.1, (r.2.2, ()))))⟩
theorem ok_mempoolref1_Fields : FnT Try.prog 25 g_mempoolref1_Fields :=
  fnT (T := T) (TU := TU) (Γ := [(34, g_mempoolref1_one)]) T_ok (by rfl) (ctx_cons ok_mempoolref1_one ctx_nil) Try.func25 rfl rfl rfl rfl (fun x => (x.2.1, x.2.2.1, x.2.2.2.1)) (fun _ => rfl)
    (.two .leaf (.two .leaf (.two .leaf (.cut ⟨38, [(5, .one (.row 1000000))], [], [(1000000, U_api_Field, 41, false)]⟩ ⟨fun x => x.2.2.1, fun v => (((), ()), (), (v, ())), fun _ => rfl⟩ (fun v => F_mempoolref1_Fields_c1 v) (.one (.loop ⟨38, [(0, .one (.d (.sl .byte))), (5, .one (.row 1000000)), (6, .one (.d (.int .i64)))], [], [(1000000, U_api_Field, 41, false)]⟩ ⟨fun x => (x.1.1.1, x.1.2.2.1.1, x.2.2.1), fun v => (((v.1, ()), ((), ((v.2.1, ()), ()))), (), (v.2.2, ())), fun _ => rfl⟩ (fun v => F_mempoolref1_Fields_l2 v.1 v.2.1 v.2.2) .leaf)) .leaf))))
    (⟨trivial, ⟨trivial, ⟨trivial, ⟨⟨trivial, fun v => by kernel_rfl⟩, trivial, fun v => by kernel_rfl⟩⟩⟩⟩) (fun a => by kernel_rfl)

def g_mempoolref1_SameBytes : TFn := ⟨.cons (.c (.d (.sl .byte))) (.cons (.c (.d (.sl .byte))) .nil), .nil, .cons (.c (.d .bool)) .nil, Bool, fun a => F_mempoolref1_SameBytes a.1 a.2.1, fun r => ((), (r, ()))⟩
theorem ok_mempoolref1_SameBytes : FnT Try.prog 13 g_mempoolref1_SameBytes :=
  fnT (T := T) (TU := TU) (Γ := []) T_ok (by rfl) (ctx_nil) Try.func13 rfl rfl rfl rfl (fun x => x.2.1) (fun _ => rfl)
    (.leaf)
    (trivial) (fun a => by kernel_rfl)

def g_mempoolref1_SameFields : TFn := ⟨.cons (.c (.d (.sl U_api_Field))) (.cons (.c (.d (.sl U_api_Field))) .nil), .nil, .cons (.c (.d .bool)) .nil, Bool, fun a => F_mempoolref1_SameFields a.1 a.2.1, fun r => ((), (r, ()))⟩
theorem ok_mempoolref1_SameFields : FnT Try.prog 26 g_mempoolref1_SameFields :=
  fnT (T := T) (TU := TU) (Γ := [(13, g_mempoolref1_SameBytes)]) T_ok (by rfl) (ctx_cons ok_mempoolref1_SameBytes ctx_nil) Try.func26 rfl rfl rfl rfl (fun x => x.2.1) (fun _ => rfl)
    (.two .leaf (.two .leaf (.two (.two .leaf (.one (.loop ⟨68, [(0, .one (.d (.sl U_api_Field))), (1, .one (.d (.sl U_api_Field))), (12, .one (.d (.int .i64))), (13, .one (.d (.int .i64)))], [], []⟩ ⟨fun x => (x.1.1.1, x.1.2.1.1, x.1.2.2.1.1, x.1.2.2.2.1.1), fun v => (((v.1, ()), ((v.2.1, ()), ((v.2.2.1, ()), ((v.2.2.2, ()), ())))), (), ()), fun _ => rfl⟩ (fun v => F_mempoolref1_SameFields_l1 v.1 v.2.1 v.2.2.1 v.2.2.2) .leaf))) .leaf)))
    (⟨trivial, ⟨trivial, ⟨⟨trivial, ⟨trivial, fun v => by kernel_rfl⟩⟩, trivial⟩⟩⟩) (fun a => by kernel_rfl)

def g_mempoollaw3_WireReads : TFn := ⟨.cons (.c (.d (.sl .byte))) (.cons (.c (.d (.sl U_api_Field))) (.cons (.c (.d (.int .u16))) (.cons (.c (.d .byte)) (.cons (.c (.d .byte)) .nil)))), .nil, .cons (.c (.d .bool)) .nil, Bool, fun a => F_mempoollaw3_WireReads a.1 a.2.1 a.2.2.1 a.2.2.2.1 a.2.2.2.2.1, fun r => ((), (r, ()))⟩
theorem ok_mempoollaw3_WireReads : FnT Try.prog 7 g_mempoollaw3_WireReads :=
  fnT (T := T) (TU := TU) (Γ := [(20, g_mempoollaw3_big), (21, g_mempoollaw3_known), (23, g_mempoollaw3_near), (22, g_mempoolref1_Field), (24, g_wire_Fields), (25, g_mempoolref1_Fields), (26, g_mempoolref1_SameFields)]) T_ok (by rfl) (ctx_cons ok_mempoollaw3_big (ctx_cons ok_mempoollaw3_known (ctx_cons ok_mempoollaw3_near (ctx_cons ok_mempoolref1_Field (ctx_cons ok_wire_Fields (ctx_cons ok_mempoolref1_Fields (ctx_cons ok_mempoolref1_SameFields ctx_nil))))))) Try.func7 rfl rfl rfl rfl (fun x => x.2.1) (fun _ => rfl)
    (.two .leaf (.two .leaf (.two .leaf (.cut ⟨132, [(0, .one (.d (.sl .byte))), (2, .one (.d (.int .u16))), (3, .one (.d .byte)), (4, .one (.d .byte)), (11, .one (.row 1000000))], [], [(1000000, .byte, 5, false)]⟩ ⟨fun x => (x.1.1.1, x.1.2.1.1, x.1.2.2.1.1, x.1.2.2.2.1.1, x.2.2.1), fun v => (((v.1, ()), ((v.2.1, ()), ((v.2.2.1, ()), ((v.2.2.2.1, ()), ((), ()))))), (), (v.2.2.2.2, ())), fun _ => rfl⟩ (fun v => F_mempoollaw3_WireReads_c1 v.1 v.2.1 v.2.2.1 v.2.2.2.1 v.2.2.2.2) (.two .leaf (.one (.loop ⟨132, [(0, .one (.d (.sl .byte))), (2, .one (.d (.int .u16))), (3, .one (.d .byte)), (4, .one (.d .byte)), (11, .one (.row 1000000)), (32, .one (.d (.sl U_api_Field))), (33, .one (.d (.int .i64))), (34, .one (.d (.int .i64)))], [], [(1000000, .byte, 5, false)]⟩ ⟨fun x => (x.1.1.1, x.1.2.1.1, x.1.2.2.1.1, x.1.2.2.2.1.1, x.1.2.2.2.2.2.1.1, x.1.2.2.2.2.2.2.1.1, x.1.2.2.2.2.2.2.2.1.1, x.2.2.1), fun v => (((v.1, ()), ((v.2.1, ()), ((v.2.2.1, ()), ((v.2.2.2.1, ()), ((), ((v.2.2.2.2.1, ()), ((v.2.2.2.2.2.1, ()), ((v.2.2.2.2.2.2.1, ()), ())))))))), (), (v.2.2.2.2.2.2.2, ())), fun _ => rfl⟩ (fun v => F_mempoollaw3_WireReads_l6 v.1 v.2.1 v.2.2.1 v.2.2.2.1 v.2.2.2.2.1 v.2.2.2.2.2.1 v.2.2.2.2.2.2.1 v.2.2.2.2.2.2.2) .leaf))) (.two .leaf (.two .leaf (.cut ⟨132, [(0, .one (.d (.sl .byte))), (3, .one (.d .byte)), (4, .one (.d .byte)), (11, .one (.row 1000000)), (14, .one (.d (.int .i64))), (15, .one (.row 1000001))], [], [(1000000, .byte, 5, true), (1000001, .byte, 5, false)]⟩ ⟨fun x => (x.1.1.1, x.1.2.1.1, x.1.2.2.1.1, x.1.2.2.2.2.1.1, x.2.2.1, x.2.2.2.1), fun v => (((v.1, ()), ((v.2.1, ()), ((v.2.2.1, ()), ((), ((v.2.2.2.1, ()), ((), ())))))), (), (v.2.2.2.2.1, (v.2.2.2.2.2, ()))), fun _ => rfl⟩ (fun v => F_mempoollaw3_WireReads_c2 v.1 v.2.1 v.2.2.1 v.2.2.2.1 v.2.2.2.2.1 v.2.2.2.2.2) .leaf (.cut ⟨132, [(0, .one (.d (.sl .byte))), (11, .one (.row 1000000)), (15, .one (.row 1000001))], [], [(1000000, .byte, 5, true), (1000001, .byte, 5, false)]⟩ ⟨fun x => (x.1.1.1, x.2.2.1, x.2.2.2.1), fun v => (((v.1, ()), ((), ((), ()))), (), (v.2.1, (v.2.2, ()))), fun _ => rfl⟩ (fun v => F_mempoollaw3_WireReads_c3 v.1 v.2.1 v.2.2) (.cut ⟨132, [(0, .one (.d (.sl .byte))), (3, .one (.d .byte)), (11, .one (.row 1000000)), (14, .one (.d (.int .i64))), (15, .one (.row 1000001)), (76, .one (.d .bool))], [], [(1000000, .byte, 5, true), (1000001, .byte, 5, false)]⟩ ⟨fun x => (x.1.1.1, x.1.2.1.1, x.1.2.2.2.1.1, x.1.2.2.2.2.2.1.1, x.2.2.1, x.2.2.2.1), fun v => (((v.1, ()), ((v.2.1, ()), ((), ((v.2.2.1, ()), ((), ((v.2.2.2.1, ()), ())))))), (), (v.2.2.2.2.1, (v.2.2.2.2.2, ()))), fun _ => rfl⟩ (fun v => F_mempoollaw3_WireReads_c5 v.1 v.2.1 v.2.2.1 v.2.2.2.1 v.2.2.2.2.1 v.2.2.2.2.2) .leaf .leaf) (.two (.two .leaf (.one (.loop ⟨132, [(98, .one (.row 1000000)), (99, .one (.d (.int .i64))), (100, .one (.d (.int .i64)))], [], [(1000000, (.sl .byte), 22, false)]⟩ ⟨fun x => (x.1.2.1.1, x.1.2.2.1.1, x.2.2.1), fun v => (((), ((v.1, ()), ((v.2.1, ()), ()))), (), (v.2.2, ())), fun _ => rfl⟩ (fun v => F_mempoollaw3_WireReads_l4 v.1 v.2.1 v.2.2) .leaf))) .leaf)))))))))
    (⟨trivial, ⟨trivial, ⟨trivial, ⟨⟨trivial, ⟨trivial, fun v => by kernel_rfl⟩⟩, ⟨trivial, ⟨trivial, ⟨trivial, ⟨⟨trivial, trivial, fun v => by kernel_rfl⟩, ⟨⟨trivial, ⟨trivial, fun v => by kernel_rfl⟩⟩, trivial⟩, fun v => by kernel_rfl⟩, fun v => by kernel_rfl⟩⟩⟩, fun v => by kernel_rfl⟩⟩⟩⟩) (fun a => by kernel_rfl)

end Go.Proofs.Ytppefbmeogoibaa.Am
