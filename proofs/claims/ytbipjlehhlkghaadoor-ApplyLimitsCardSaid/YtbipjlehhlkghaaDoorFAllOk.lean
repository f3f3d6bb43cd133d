/- The functions compute it: by the typed machine. No conditions. -/
import Derived.Test.YtbipjlehhlkghaaDoorFAll
import Derived.KernelRfl
namespace Go.Proofs.YtbipjlehhlkghaaDoor.Am
open Go
set_option maxRecDepth 100000
noncomputable def a2C:TFn:=⟨.cons (.c (.d (.int .i64))) (.cons (.c (.d (.int .i64))) .nil),.nil,.cons (.c (.d (.int .i64))) .nil,Int,fun a=>O7 a.1 a.2.1,fun r=>((),(r,())),.none⟩
theorem a5l:FnT Tryd.prog 4 a2C:=
 fnT (T:=T) (TU:=TU) (Γ:=[]) R7 (by rfl) (B2) Tryd.func4 rfl rfl rfl rfl (fun x=>x.2.1) (fun _=>rfl)
  (.leaf)
  (trivial) (fun a=>by kernel_rfl)
noncomputable def Y1:TFn:=⟨.cons (.c (.d .str)) .nil,.nil,.cons (.c (.d .bool)) .nil,Bool,fun a=>I3 a.1,fun r=>((),(r,())),.none⟩
theorem a06:FnT Tryd.prog 24 Y1:=
 fnT (T:=T) (TU:=TU) (Γ:=[]) R7 (by rfl) (B2) Tryd.func24 rfl rfl rfl rfl (fun x=>x.2.1) (fun _=>rfl)
  (.two .leaf (.cut ⟨41,[(0,.one (.d .str))],[],[]⟩ ⟨fun x=>x.1.1.1,fun v=>(((v,()),()),(),()),fun _=>rfl⟩ (fun v=>T4 v) (.two .leaf (.one (.loop ⟨41,[(0,.one (.d .str)),(3,.one (.d (.int .i64)))],[],[]⟩ ⟨fun x=>(x.1.1.1,x.1.2.1.1),fun v=>(((v.1,()),((v.2,()),())),(),()),fun _=>rfl⟩ (fun v=>I2 v.1 v.2) .leaf))) .leaf))
  (⟨trivial,⟨⟨trivial,⟨trivial,fun v=>by kernel_rfl⟩⟩,trivial,fun v=>by kernel_rfl⟩⟩) (fun a=>by kernel_rfl)
noncomputable def a1z:TFn:=⟨.cons (.c (.d .str)) (.cons (.c (.d (.int .i64))) .nil),.nil,.cons (.c (.d .bool)) .nil,Bool,fun a=>D1 a.1 a.2.1,fun r=>((),(r,())),.none⟩
theorem a4m:FnT Tryd.prog 89 a1z:=
 fnT (T:=T) (TU:=TU) (Γ:=[]) R7 (by rfl) (B2) Tryd.func89 rfl rfl rfl rfl (fun x=>x.2.1) (fun _=>rfl)
  (.leaf)
  (trivial) (fun a=>by kernel_rfl)
noncomputable def a2D:TFn:=⟨.cons (.c (.d .str)) (.cons (.c (.d (.int .i64))) .nil),.nil,.cons (.c (.d (.int .i64))) .nil,Int,fun a=>U3 a.1 a.2.1,fun r=>((),(r,())),.none⟩
theorem a5m:FnT Tryd.prog 77 a2D:=
 fnT (T:=T) (TU:=TU) (Γ:=[(89,a1z)]) R7 (by rfl) (o9 a4m B2) Tryd.func77 rfl rfl rfl rfl (fun x=>x.2.1) (fun _=>rfl)
  (.two .leaf (.two .leaf (.two (.one (.two .leaf (.two .leaf (.cut ⟨109,[(0,.one (.d .str)),(1,.one (.d (.int .i64))),(5,.one (.d .byte)),(12,.one (.d .bool))],[],[]⟩ ⟨fun x=>(x.1.1.1,x.1.2.1.1,x.1.2.2.1.1,x.1.2.2.2.1.1),fun v=>(((v.1,()),((v.2.1,()),((v.2.2.1,()),((v.2.2.2,()),())))),(),()),fun _=>rfl⟩ (fun v=>E3 v.1 v.2.1 v.2.2.1 v.2.2.2) .leaf (.two .leaf (.cut ⟨109,[(0,.one (.d .str)),(1,.one (.d (.int .i64))),(5,.one (.d .byte)),(25,.one (.d .bool))],[],[]⟩ ⟨fun x=>(x.1.1.1,x.1.2.1.1,x.1.2.2.1.1,x.1.2.2.2.1.1),fun v=>(((v.1,()),((v.2.1,()),((v.2.2.1,()),((v.2.2.2,()),())))),(),()),fun _=>rfl⟩ (fun v=>D5 v.1 v.2.1 v.2.2.1 v.2.2.2) .leaf (.two .leaf (.cut ⟨109,[(0,.one (.d .str)),(1,.one (.d (.int .i64))),(5,.one (.d .byte)),(64,.one (.d .bool))],[],[]⟩ ⟨fun x=>(x.1.1.1,x.1.2.1.1,x.1.2.2.1.1,x.1.2.2.2.1.1),fun v=>(((v.1,()),((v.2.1,()),((v.2.2.1,()),((v.2.2.2,()),())))),(),()),fun _=>rfl⟩ (fun v=>C7 v.1 v.2.1 v.2.2.1 v.2.2.2) .leaf .leaf)))))))) .leaf)))
  (⟨trivial,⟨trivial,⟨⟨trivial,⟨trivial,⟨trivial,⟨trivial,⟨trivial,⟨trivial,⟨trivial,trivial,fun v=>by kernel_rfl⟩⟩,fun v=>by kernel_rfl⟩⟩,fun v=>by kernel_rfl⟩⟩⟩,trivial⟩⟩⟩) (fun a=>by kernel_rfl)
noncomputable def a1T:TFn:=⟨.cons (.c (.d .str)) .nil,.nil,.cons (.c (.d (.int .i64))) (.cons (.c (.d .bool)) .nil),Int × Bool,fun a=>S3 a.1,fun r=>((),(r.1,(r.2,()))),.none⟩
theorem a4I:FnT Tryd.prog 55 a1T:=
 fnT (T:=T) (TU:=TU) (Γ:=[(77,a2D)]) R7 (by rfl) (o9 a5m B2) Tryd.func55 rfl rfl rfl rfl (fun x=>(x.2.1,x.2.2.1)) (fun _=>rfl)
  (.two .leaf (.two .leaf (.two (.two .leaf (.one (.loop ⟨22,[(0,.one (.d .str)),(4,.one (.d (.int .i64))),(5,.one (.d (.int .i64)))],[],[]⟩ ⟨fun x=>(x.1.1.1,x.1.2.1.1,x.1.2.2.1.1),fun v=>(((v.1,()),((v.2.1,()),((v.2.2,()),()))),(),()),fun _=>rfl⟩ (fun v=>U4 v.1 v.2.1 v.2.2) .leaf))) .leaf)))
  (⟨trivial,⟨trivial,⟨⟨trivial,⟨trivial,fun v=>by kernel_rfl⟩⟩,trivial⟩⟩⟩) (fun a=>by kernel_rfl)
noncomputable def a1A:TFn:=⟨.cons (.c (.d .str)) .nil,.nil,.cons (.c (.d .bool)) .nil,Bool,fun a=>Q5 a.1,fun r=>((),(r,())),.none⟩
theorem a4n:FnT Tryd.prog 25 a1A:=
 fnT (T:=T) (TU:=TU) (Γ:=[(55,a1T)]) R7 (by rfl) (o9 a4I B2) Tryd.func25 rfl rfl rfl rfl (fun x=>x.2.1) (fun _=>rfl)
  (.leaf)
  (trivial) (fun a=>by kernel_rfl)
noncomputable def R9:TFn:=⟨.cons (.agg (.cons (.d J6) .nil)) .nil,.nil,.cons (.c (.d (.int .i64))) .nil,Int,fun a=>H4 a.1.1,fun r=>((),(r,())),.none⟩
theorem a0a:FnT Tryd.prog 10 R9:=
 fnT (T:=T) (TU:=TU) (Γ:=[(24,Y1),(25,a1A)]) R7 (by rfl) (o9 a06 (o9 a4n B2)) Tryd.func10 rfl rfl rfl rfl (fun x=>x.2.1) (fun _=>rfl)
  (.two .leaf (.two .leaf (.two (.two .leaf (.one (.loop ⟨45,[(31,.one (.d (.sl A3))),(32,.one (.d (.int .i64))),(33,.one (.d (.int .i64)))],[],[]⟩ ⟨fun x=>(x.1.1.1,x.1.2.1.1,x.1.2.2.1.1),fun v=>(((v.1,()),((v.2.1,()),((v.2.2,()),()))),(),()),fun _=>rfl⟩ (fun v=>I6 v.1 v.2.1 v.2.2) .leaf))) .leaf)))
  (⟨trivial,⟨trivial,⟨⟨trivial,⟨trivial,fun v=>by kernel_rfl⟩⟩,trivial⟩⟩⟩) (fun a=>by kernel_rfl)
noncomputable def a0y:TFn:=⟨.cons (.c (.row A9 64)) (.cons (.c (.d (.int .i64))) (.cons (.c (.d .str)) .nil)),.nil,.cons (.c (.row A9 64)) .nil,List o6,fun a=>I0 a.1 a.2.1 a.2.2.1,fun r=>((),(r,())),.none⟩
theorem a1U:FnT Tryd.prog 26 a0y:=
 fnT (T:=T) (TU:=TU) (Γ:=[]) R7 (by rfl) (B2) Tryd.func26 rfl rfl rfl rfl (fun x=>x.2.1) (fun _=>rfl)
  (.leaf)
  (trivial) (fun a=>by kernel_rfl)
noncomputable def Y2:TFn:=⟨.cons (.c (.row A9 64)) (.cons (.c (.d (.int .i64))) (.cons (.c (.d (.int .u64))) .nil)),.nil,.cons (.c (.row A9 64)) .nil,List o6,fun a=>D7 a.1 a.2.1 a.2.2.1,fun r=>((),(r,())),.none⟩
theorem a07:FnT Tryd.prog 27 Y2:=
 fnT (T:=T) (TU:=TU) (Γ:=[]) R7 (by rfl) (B2) Tryd.func27 rfl rfl rfl rfl (fun x=>x.2.1) (fun _=>rfl)
  (.leaf)
  (trivial) (fun a=>by kernel_rfl)
noncomputable def a2E:TFn:=⟨.cons (.agg (.cons (.d A9) .nil)) .nil,.nil,.cons (.c (.d .bool)) .nil,Bool,fun a=>O8 a.1.1,fun r=>((),(r,())),.none⟩
theorem a5n:FnT Tryd.prog 78 a2E:=
 fnT (T:=T) (TU:=TU) (Γ:=[]) R7 (by rfl) (B2) Tryd.func78 rfl rfl rfl rfl (fun x=>x.2.1) (fun _=>rfl)
  (.leaf)
  (trivial) (fun a=>by kernel_rfl)
noncomputable def a1V:TFn:=⟨.cons (.c (.d (.sl .byte))) (.cons (.c (.d (.int .u64))) .nil),.nil,.cons (.c (.row .byte 5)) .nil,List UInt8,fun a=>E2 a.1 a.2.1,fun r=>((),(r,())),.none⟩
theorem a4J:FnT Tryd.prog 79 a1V:=
 fnT (T:=T) (TU:=TU) (Γ:=[]) R7 (by rfl) (B2) Tryd.func79 rfl rfl rfl rfl (fun x=>x.2.1) (fun _=>rfl)
  (.two .leaf (.two .leaf (.cut ⟨24,[(1,.one (.d (.int .u64))),(5,.one (.row 1000000))],[],[(1000000,.byte,5,false)]⟩ ⟨fun x=>(x.1.1.1,x.2.2.1),fun v=>(((v.1,()),((),())),(),(v.2,())),fun _=>rfl⟩ (fun v=>U5 v.1 v.2) (.one (.loop ⟨24,[(1,.one (.d (.int .u64))),(5,.one (.row 1000000))],[],[(1000000,.byte,5,false)]⟩ ⟨fun x=>(x.1.1.1,x.2.2.1),fun v=>(((v.1,()),((),())),(),(v.2,())),fun _=>rfl⟩ (fun v=>U6 v.1 v.2) .leaf)) .leaf)))
  (⟨trivial,⟨trivial,⟨⟨trivial,fun v=>by kernel_rfl⟩,trivial,fun v=>by kernel_rfl⟩⟩⟩) (fun a=>by kernel_rfl)
noncomputable def a2F:TFn:=⟨.cons (.c (.d (.sl .byte))) (.cons (.agg (.cons (.d A9) .nil)) .nil),.nil,.cons (.c (.row .byte 5)) (.cons (.c (.d (.int .i64))) .nil),List UInt8 × Int,fun a=>U7 a.1 a.2.1.1,fun r=>((),(r.1,(r.2,()))),.none⟩
theorem a5o:FnT Tryd.prog 56 a2F:=
 fnT (T:=T) (TU:=TU) (Γ:=[(78,a2E),(79,a1V)]) R7 (by rfl) (o9 a5n (o9 a4J B2)) Tryd.func56 rfl rfl rfl rfl (fun x=>(x.2.1,x.2.2.1)) (fun _=>rfl)
  (.leaf)
  (trivial) (fun a=>by kernel_rfl)
noncomputable def Y3:TFn:=⟨.cons (.c (.d (.sl A9))) .nil,.nil,.cons (.c (.row .byte 5)) .nil,List UInt8,fun a=>D2 a.1,fun r=>((),(r,())),.none⟩
theorem a08:FnT Tryd.prog 28 Y3:=
 fnT (T:=T) (TU:=TU) (Γ:=[(56,a2F)]) R7 (by rfl) (o9 a5o B2) Tryd.func28 rfl rfl rfl rfl (fun x=>x.2.1) (fun _=>rfl)
  (.two .leaf (.two .leaf (.two (.two .leaf (.one (.loop ⟨20,[(3,.one (.row 1000000)),(6,.one (.d (.sl A9))),(7,.one (.d (.int .i64))),(8,.one (.d (.int .i64)))],[],[(1000000,.byte,5,false)]⟩ ⟨fun x=>(x.1.2.1.1,x.1.2.2.1.1,x.1.2.2.2.1.1,x.2.2.1),fun v=>(((),((v.1,()),((v.2.1,()),((v.2.2.1,()),())))),(),(v.2.2.2,())),fun _=>rfl⟩ (fun v=>M0 v.1 v.2.1 v.2.2.1 v.2.2.2) .leaf))) .leaf)))
  (⟨trivial,⟨trivial,⟨⟨trivial,⟨trivial,fun v=>by kernel_rfl⟩⟩,trivial⟩⟩⟩) (fun a=>by kernel_rfl)
noncomputable def a0z:TFn:=⟨.cons (.agg (.cons (.d J6) .nil)) .nil,.nil,.cons (.c (.row .byte 5)) .nil,List UInt8,fun a=>O9 a.1.1,fun r=>((),(r,())),.none⟩
theorem a1W:FnT Tryd.prog 11 a0z:=
 fnT (T:=T) (TU:=TU) (Γ:=[(26,a0y),(27,Y2),(28,Y3)]) R7 (by rfl) (o9 a1U (o9 a07 (o9 a08 B2))) Tryd.func11 rfl rfl rfl rfl (fun x=>x.2.1) (fun _=>rfl)
  (.two .leaf (.two .leaf (.two .leaf (.two .leaf (.two .leaf (.two .leaf (.two (.two .leaf (.one (.loop ⟨46,[(3,.one (.row 1000000)),(26,.one (.d (.sl A3))),(27,.one (.d (.int .i64))),(28,.one (.d (.int .i64)))],[],[(1000000,A9,64,false)]⟩ ⟨fun x=>(x.1.2.1.1,x.1.2.2.1.1,x.1.2.2.2.1.1,x.2.2.1),fun v=>(((),((v.1,()),((v.2.1,()),((v.2.2.1,()),())))),(),(v.2.2.2,())),fun _=>rfl⟩ (fun v=>P2 v.1 v.2.1 v.2.2.1 v.2.2.2) .leaf))) .leaf)))))))
  (⟨trivial,⟨trivial,⟨trivial,⟨trivial,⟨trivial,⟨trivial,⟨⟨trivial,⟨trivial,fun v=>by kernel_rfl⟩⟩,trivial⟩⟩⟩⟩⟩⟩⟩) (fun a=>by kernel_rfl)
noncomputable def V5:TFn:=⟨.cons (.agg (.cons (.d J6) .nil)) .nil,.nil,.cons (.c (.row .byte 5)) (.cons (.c (.d (.int .i64))) .nil),List UInt8 × Int,fun a=>J0 a.1.1,fun r=>((),(r.1,(r.2,()))),.none⟩
theorem a0I:FnT Tryd.prog 5 V5:=
 fnT (T:=T) (TU:=TU) (Γ:=[(10,R9),(11,a0z)]) R7 (by rfl) (o9 a0a (o9 a1W B2)) Tryd.func5 rfl rfl rfl rfl (fun x=>(x.2.1,x.2.2.1)) (fun _=>rfl)
  (.leaf)
  (trivial) (fun a=>by kernel_rfl)
def M2:TFn:=T3 32 A1 24
theorem Y4:FnT Tryd.prog 29 M2:=b9m (T:=T) (TU:=TU) R7 (by rfl) Tryd.underlying25 Tryd.func29 rfl rfl (of_decide_eq_true (by kernel_rfl)) (by rfl) (by rfl) (by rfl) (by rfl) (by rfl) (by rfl) (by rfl) (by rfl) (by rfl) (by kernel_rfl) (fun l=>by kernel_rfl)
noncomputable def a7Y:TFn:=⟨.cons (.agg (.cons (.d B3) .nil)) .nil,.nil,.cons (.agg (.cons (.row A1 24) (.cons (.d (.int .u64)) .nil))) .nil,List o3 × Int,fun a=>a2T a.1.1,fun r=>((),((r.1,(r.2,())),())),.none⟩
theorem b1J:FnT Tryd.prog 12 a7Y:=
 fnT (T:=T) (TU:=TU) (Γ:=[(29,M2)]) R7 (by rfl) (o9 Y4 B2) Tryd.func12 rfl rfl rfl rfl (fun x=>(x.2.1.1,x.2.1.2.1)) (fun _=>rfl)
  (.leaf)
  (trivial) (fun a=>by kernel_rfl)
noncomputable def a58:TFn:=⟨.cons (.c (.d .str)) .nil,.nil,.cons (.c (.d .bool)) .nil,Bool,fun a=>a1e a.1,fun r=>((),(r,())),.none⟩
theorem a7Z:FnT Tryd.prog 30 a58:=
 fnT (T:=T) (TU:=TU) (Γ:=[]) R7 (by rfl) (B2) Tryd.func30 rfl rfl rfl rfl (fun x=>x.2.1) (fun _=>rfl)
  (.two .leaf (.cut ⟨40,[(0,.one (.d .str))],[],[]⟩ ⟨fun x=>x.1.1.1,fun v=>(((v,()),()),(),()),fun _=>rfl⟩ (fun v=>a28 v) (.two .leaf (.one (.loop ⟨40,[(0,.one (.d .str)),(6,.one (.d (.int .i64))),(7,.one (.d (.int .i64)))],[],[]⟩ ⟨fun x=>(x.1.1.1,x.1.2.1.1,x.1.2.2.1.1),fun v=>(((v.1,()),((v.2.1,()),((v.2.2,()),()))),(),()),fun _=>rfl⟩ (fun v=>a0m v.1 v.2.1 v.2.2) .leaf))) .leaf))
  (⟨trivial,⟨⟨trivial,⟨trivial,fun v=>by kernel_rfl⟩⟩,trivial,fun v=>by kernel_rfl⟩⟩) (fun a=>by kernel_rfl)
noncomputable def a59:TFn:=⟨.cons (.c (.d (.sl (.int .u64)))) .nil,.nil,.cons (.c (.d (.int .u64))) (.cons (.c (.d .bool)) .nil),Int × Bool,fun a=>a2z a.1,fun r=>((),(r.1,(r.2,()))),.none⟩
theorem a70:FnT Tryd.prog 57 a59:=
 fnT (T:=T) (TU:=TU) (Γ:=[(80,a3Z)]) R7 (by rfl) (o9 b2Y B2) Tryd.func57 rfl rfl rfl rfl (fun x=>(x.2.1,x.2.2.1)) (fun _=>rfl)
  (.two .leaf (.two .leaf (.two (.two .leaf (.one (.loop ⟨26,[(4,.one (.d (.int .u64))),(9,.one (.d (.sl (.int .u64)))),(10,.one (.d (.int .i64))),(11,.one (.d (.int .i64)))],[],[]⟩ ⟨fun x=>(x.1.1.1,x.1.2.1.1,x.1.2.2.1.1,x.1.2.2.2.1.1),fun v=>(((v.1,()),((v.2.1,()),((v.2.2.1,()),((v.2.2.2,()),())))),(),()),fun _=>rfl⟩ (fun v=>a1n v.1 v.2.1 v.2.2.1 v.2.2.2) .leaf))) .leaf)))
  (⟨trivial,⟨trivial,⟨⟨trivial,⟨trivial,fun v=>by kernel_rfl⟩⟩,trivial⟩⟩⟩) (fun a=>by kernel_rfl)
noncomputable def a5K:TFn:=⟨.cons (.agg (.cons (.d B3) .nil)) .nil,.nil,.cons (.c (.d (.int .u64))) (.cons (.c (.d .bool)) .nil),Int × Bool,fun a=>a1o a.1.1,fun r=>((),(r.1,(r.2,()))),.none⟩
theorem a9p:FnT Tryd.prog 31 a5K:=
 fnT (T:=T) (TU:=TU) (Γ:=[(57,a59)]) R7 (by rfl) (o9 a70 B2) Tryd.func31 rfl rfl rfl rfl (fun x=>(x.2.1,x.2.2.1)) (fun _=>rfl)
  (.two .leaf (.two .leaf (.cut ⟨27,[(4,.one (.row 1000000))],[],[(1000000,(.int .u64),22,false)]⟩ ⟨fun x=>x.2.2.1,fun v=>(((),()),(),(v,())),fun _=>rfl⟩ (fun v=>a1f v) (.two .leaf (.one (.loop ⟨27,[(4,.one (.row 1000000)),(11,.one (.d (.sl A1))),(12,.one (.d (.int .i64))),(13,.one (.d (.int .i64)))],[],[(1000000,(.int .u64),22,false)]⟩ ⟨fun x=>(x.1.2.1.1,x.1.2.2.1.1,x.1.2.2.2.1.1,x.2.2.1),fun v=>(((),((v.1,()),((v.2.1,()),((v.2.2.1,()),())))),(),(v.2.2.2,())),fun _=>rfl⟩ (fun v=>Z0 v.1 v.2.1 v.2.2.1 v.2.2.2) .leaf))) .leaf)))
  (⟨trivial,⟨trivial,⟨⟨trivial,⟨trivial,fun v=>by kernel_rfl⟩⟩,trivial,fun v=>by kernel_rfl⟩⟩⟩) (fun a=>by kernel_rfl)
noncomputable def a3v:TFn:=⟨.cons (.agg (.cons (.d B3) .nil)) .nil,.nil,.cons (.c (.d (.int .i64))) .nil,Int,fun a=>Z1 a.1.1,fun r=>((),(r,())),.none⟩
theorem a6N:FnT Tryd.prog 13 a3v:=
 fnT (T:=T) (TU:=TU) (Γ:=[(30,a58),(31,a5K)]) R7 (by rfl) (o9 a7Z (o9 a9p B2)) Tryd.func13 rfl rfl rfl rfl (fun x=>x.2.1) (fun _=>rfl)
  (.two .leaf (.two .leaf (.cut ⟨62,[(1,.one (.ptr 1000000 0))],[(1000000,[.d B3])],[]⟩ ⟨fun x=>x.2.1.1.1,fun v=>(((),()),((v,()),()),()),fun _=>rfl⟩ (fun v=>a0d v) (.two .leaf (.one (.loop ⟨62,[(1,.one (.ptr 1000000 0)),(12,.one (.d (.sl A1))),(13,.one (.d (.int .i64))),(14,.one (.d (.int .i64)))],[(1000000,[.d B3])],[]⟩ ⟨fun x=>(x.1.2.1.1,x.1.2.2.1.1,x.1.2.2.2.1.1,x.2.1.1.1),fun v=>(((),((v.1,()),((v.2.1,()),((v.2.2.1,()),())))),((v.2.2.2,()),()),()),fun _=>rfl⟩ (fun v=>S4 v.1 v.2.1 v.2.2.1 v.2.2.2) (.two .leaf (.two .leaf (.two (.one (.two .leaf (.one (.two .leaf (.two .leaf (.cut ⟨62,[(1,.one (.ptr 1000000 0)),(3,.one (.d (.int .i64))),(4,.one (.ptr 1000001 0)),(12,.one (.d (.sl A1))),(13,.one (.d (.int .i64))),(14,.one (.d (.int .i64))),(24,.one (.d .bool))],[(1000000,[.d B3]),(1000001,[.d A1])],[]⟩ ⟨fun x=>(x.1.2.1.1,x.1.2.2.2.1.1,x.1.2.2.2.2.1.1,x.1.2.2.2.2.2.1.1,x.1.2.2.2.2.2.2.1.1,x.2.1.1.1,x.2.1.2.1.1),fun v=>(((),((v.1,()),((),((v.2.1,()),((v.2.2.1,()),((v.2.2.2.1,()),((v.2.2.2.2.1,()),()))))))),((v.2.2.2.2.2.1,()),((v.2.2.2.2.2.2,()),())),()),fun _=>rfl⟩ (fun v=>N1 v.1 v.2.1 v.2.2.1 v.2.2.2.1 v.2.2.2.2.1 v.2.2.2.2.2.1 v.2.2.2.2.2.2) .leaf .leaf)))))) .leaf)))))) .leaf)))
  (⟨trivial,⟨trivial,⟨⟨trivial,⟨⟨trivial,⟨trivial,⟨⟨trivial,⟨trivial,⟨trivial,⟨trivial,trivial,fun v=>by kernel_rfl⟩⟩⟩⟩,trivial⟩⟩⟩,fun v=>by kernel_rfl⟩⟩,trivial,fun v=>by kernel_rfl⟩⟩⟩) (fun a=>by kernel_rfl)
noncomputable def a6O:TFn:=⟨.cons (.c (.d (.sl .byte))) .nil,.nil,.cons (.c (.d (.int .u64))) (.cons (.c (.d (.int .i64))) (.cons (.c (.d (.int .i64))) .nil)),Int × Int × Int,fun a=>Z2 a.1,fun r=>((),(r.1,(r.2.1,(r.2.2,())))),.none⟩
theorem a9W:FnT Tryd.prog 81 a6O:=
 fnT (T:=T) (TU:=TU) (Γ:=[]) R7 (by rfl) (B2) Tryd.func81 rfl rfl rfl rfl (fun x=>(x.2.1,x.2.2.1,x.2.2.2.1)) (fun _=>rfl)
  (.two .leaf (.two .leaf (.one (.loop ⟨52,[(0,.one (.d (.sl .byte))),(2,.one (.d (.int .u64))),(5,.one (.d (.int .i64)))],[],[]⟩ ⟨fun x=>(x.1.1.1,x.1.2.1.1,x.1.2.2.1.1),fun v=>(((v.1,()),((v.2.1,()),((v.2.2,()),()))),(),()),fun _=>rfl⟩ (fun v=>a4g v.1 v.2.1 v.2.2) (.two (.one (.cut ⟨52,[(0,.one (.d (.sl .byte))),(2,.one (.d (.int .u64))),(5,.one (.d (.int .i64)))],[],[]⟩ ⟨fun x=>(x.1.1.1,x.1.2.1.1,x.1.2.2.1.1),fun v=>(((v.1,()),((v.2.1,()),((v.2.2,()),()))),(),()),fun _=>rfl⟩ (fun v=>a1N v.1 v.2.1 v.2.2) (.one (.two .leaf (.two .leaf (.cut ⟨52,[(0,.one (.d (.sl .byte))),(2,.one (.d (.int .u64))),(5,.one (.d (.int .i64))),(13,.one (.d .bool))],[],[]⟩ ⟨fun x=>(x.1.1.1,x.1.2.1.1,x.1.2.2.1.1,x.1.2.2.2.1.1),fun v=>(((v.1,()),((v.2.1,()),((v.2.2.1,()),((v.2.2.2,()),())))),(),()),fun _=>rfl⟩ (fun v=>a1O v.1 v.2.1 v.2.2.1 v.2.2.2) .leaf .leaf)))) .leaf)) .leaf)))))
  (⟨trivial,⟨trivial,⟨⟨⟨⟨trivial,⟨trivial,⟨trivial,trivial,fun v=>by kernel_rfl⟩⟩⟩,trivial,fun v=>by kernel_rfl⟩,trivial⟩,fun v=>by kernel_rfl⟩⟩⟩) (fun a=>by kernel_rfl)
noncomputable def a9q:TFn:=⟨.cons (.c (.d (.sl .byte))) .nil,.nil,.cons (.agg (.cons (.d A9) .nil)) (.cons (.c (.d (.int .i64))) (.cons (.c (.d (.int .i64))) .nil)),o6 × Int × Int,fun a=>a1g a.1,fun r=>((),((r.1,()),(r.2.1,(r.2.2,())))),.none⟩
theorem b20:FnT Tryd.prog 58 a9q:=
 fnT (T:=T) (TU:=TU) (Γ:=[(81,a6O)]) R7 (by rfl) (o9 a9W B2) Tryd.func58 rfl rfl rfl rfl (fun x=>(x.2.1.1,x.2.2.1,x.2.2.2.1)) (fun _=>rfl)
  (.two .leaf (.two .leaf (.two .leaf (.two .leaf (.cut ⟨85,[(0,.one (.d (.sl .byte))),(2,.one (.ptr 1000000 0)),(3,.one (.d (.int .i64))),(6,.one (.d (.int .i64))),(7,.one (.d (.int .u64)))],[(1000000,[.d A9])],[]⟩ ⟨fun x=>(x.1.1.1,x.1.2.2.1.1,x.1.2.2.2.1.1,x.1.2.2.2.2.1.1,x.2.1.1.1),fun v=>(((v.1,()),((),((v.2.1,()),((v.2.2.1,()),((v.2.2.2.1,()),()))))),((v.2.2.2.2,()),()),()),fun _=>rfl⟩ (fun v=>R8 v.1 v.2.1 v.2.2.1 v.2.2.2.1 v.2.2.2.2) .leaf .leaf)))))
  (⟨trivial,⟨trivial,⟨trivial,⟨trivial,⟨trivial,trivial,fun v=>by kernel_rfl⟩⟩⟩⟩⟩) (fun a=>by kernel_rfl)
noncomputable def a34:TFn:=⟨.cons (.c (.d (.sl .byte))) .nil,.nil,.cons (.c (.row A9 64)) (.cons (.c (.d (.int .i64))) (.cons (.c (.d (.int .i64))) .nil)),List o6 × Int × Int,fun a=>U8 a.1,fun r=>((),(r.1,(r.2.1,(r.2.2,())))),.none⟩
theorem a5L:FnT Tryd.prog 32 a34:=
 fnT (T:=T) (TU:=TU) (Γ:=[(58,a9q)]) R7 (by rfl) (o9 b20 B2) Tryd.func32 rfl rfl rfl rfl (fun x=>(x.2.1,x.2.2.1,x.2.2.2.1)) (fun _=>rfl)
  (.two .leaf (.cut ⟨36,[(2,.one (.row 1000000))],[],[(1000000,A9,64,false)]⟩ ⟨fun x=>x.2.2.1,fun v=>(((),()),(),(v,())),fun _=>rfl⟩ (fun v=>a1P v) (.one (.loop ⟨36,[(0,.one (.d (.sl .byte))),(2,.one (.row 1000000)),(3,.one (.d (.int .i64)))],[],[(1000000,A9,64,false)]⟩ ⟨fun x=>(x.1.1.1,x.1.2.2.1.1,x.2.2.1),fun v=>(((v.1,()),((),((v.2.1,()),()))),(),(v.2.2,())),fun _=>rfl⟩ (fun v=>M6 v.1 v.2.1 v.2.2) .leaf)) .leaf))
  (⟨trivial,⟨⟨trivial,fun v=>by kernel_rfl⟩,trivial,fun v=>by kernel_rfl⟩⟩) (fun a=>by kernel_rfl)
noncomputable def a6P:TFn:=⟨.cons (.c (.d (.sl .byte))) .nil,.nil,.cons (.agg (.cons (.d A3) .nil)) .nil,o4,fun a=>a0P a.1,fun r=>((),((r,()),())),.none⟩
theorem a9X:FnT Tryd.prog 59 a6P:=
 fnT (T:=T) (TU:=TU) (Γ:=[(32,a34)]) R7 (by rfl) (o9 a5L B2) Tryd.func59 rfl rfl rfl rfl (fun x=>x.2.1.1) (fun _=>rfl)
  (.two .leaf (.two .leaf (.two .leaf (.two (.two .leaf (.one (.loop ⟨36,[(2,.one (.ptr 1000000 0)),(3,.one (.ptr 1000001 0)),(15,.one (.row 1000000)),(16,.one (.d (.int .i64))),(17,.one (.d (.int .i64)))],[(1000000,[.d A3]),(1000001,[.d A3])],[(1000000,A9,64,false)]⟩ ⟨fun x=>(x.1.2.2.2.1.1,x.1.2.2.2.2.1.1,x.2.1.1.1,x.2.1.2.1.1,x.2.2.1),fun v=>(((),((),((),((v.1,()),((v.2.1,()),()))))),((v.2.2.1,()),((v.2.2.2.1,()),())),(v.2.2.2.2,())),fun _=>rfl⟩ (fun v=>a0q v.1 v.2.1 v.2.2.1 v.2.2.2.1 v.2.2.2.2) .leaf))) .leaf))))
  (⟨trivial,⟨trivial,⟨trivial,⟨⟨trivial,⟨trivial,fun v=>by kernel_rfl⟩⟩,trivial⟩⟩⟩⟩) (fun a=>by kernel_rfl)
noncomputable def b21:TFn:=⟨.cons (.c (.d (.sl A9))) .nil,.nil,.cons (.agg (.cons (.d J6) .nil)) .nil,o8,fun a=>a6M a.1,fun r=>((),((r,()),())),.none⟩
theorem b63:FnT Tryd.prog 33 b21:=
 fnT (T:=T) (TU:=TU) (Γ:=[(59,a6P)]) R7 (by rfl) (o9 a9X B2) Tryd.func33 rfl rfl rfl rfl (fun x=>x.2.1.1) (fun _=>rfl)
  (.two .leaf (.two .leaf (.two (.two .leaf (.one (.loop ⟨53,[(2,.one (.ptr 1000000 0)),(3,.one (.ptr 1000001 0)),(6,.one (.d (.sl A9))),(7,.one (.d (.int .i64))),(8,.one (.d (.int .i64)))],[(1000000,[.d .str,.d (.int .u64),.d (.int .u64),.d (.int .u64),.d .str,.nil]),(1000001,[.d .str,.d (.int .u64),.d (.int .u64),.d (.int .u64),.d .str,.row 1000000])],[(1000000,A3,35,false)]⟩ ⟨fun x=>(x.1.2.2.1.1,x.1.2.2.2.1.1,x.1.2.2.2.2.1.1,x.2.1.1.1,x.2.1.1.2.1,x.2.1.1.2.2.1,x.2.1.1.2.2.2.1,x.2.1.1.2.2.2.2.1,x.2.1.2.1.1,x.2.1.2.1.2.1,x.2.1.2.1.2.2.1,x.2.1.2.1.2.2.2.1,x.2.1.2.1.2.2.2.2.1,x.2.2.1),fun v=>(((),((),((v.1,()),((v.2.1,()),((v.2.2.1,()),()))))),((v.2.2.2.1,(v.2.2.2.2.1,(v.2.2.2.2.2.1,(v.2.2.2.2.2.2.1,(v.2.2.2.2.2.2.2.1,()))))),((v.2.2.2.2.2.2.2.2.1,(v.2.2.2.2.2.2.2.2.2.1,(v.2.2.2.2.2.2.2.2.2.2.1,(v.2.2.2.2.2.2.2.2.2.2.2.1,(v.2.2.2.2.2.2.2.2.2.2.2.2.1,()))))),())),(v.2.2.2.2.2.2.2.2.2.2.2.2.2,())),fun _=>rfl⟩ (fun v=>a2V v.1 v.2.1 v.2.2.1 v.2.2.2.1 v.2.2.2.2.1 v.2.2.2.2.2.1 v.2.2.2.2.2.2.1 v.2.2.2.2.2.2.2.1 v.2.2.2.2.2.2.2.2.1 v.2.2.2.2.2.2.2.2.2.1 v.2.2.2.2.2.2.2.2.2.2.1 v.2.2.2.2.2.2.2.2.2.2.2.1 v.2.2.2.2.2.2.2.2.2.2.2.2.1 v.2.2.2.2.2.2.2.2.2.2.2.2.2) .leaf))) .leaf)))
  (⟨trivial,⟨trivial,⟨⟨trivial,⟨trivial,fun v=>by kernel_rfl⟩⟩,trivial⟩⟩⟩) (fun a=>by kernel_rfl)
noncomputable def a71:TFn:=⟨.cons (.agg (.cons (.d A9) .nil)) .nil,.nil,.cons (.c (.d .bool)) .nil,Bool,fun a=>a1w a.1.1,fun r=>((),(r,())),.none⟩
theorem b1K:FnT Tryd.prog 91 a71:=
 fnT (T:=T) (TU:=TU) (Γ:=[]) R7 (by rfl) (B2) Tryd.func91 rfl rfl rfl rfl (fun x=>x.2.1) (fun _=>rfl)
  (.leaf)
  (trivial) (fun a=>by kernel_rfl)
noncomputable def b0G:TFn:=⟨.cons (.agg (.cons (.d A9) .nil)) .nil,.nil,.cons (.c (.d (.int .u64))) .nil,Int,fun a=>a5f a.1.1,fun r=>((),(r,())),.none⟩
theorem b4x:FnT Tryd.prog 93 b0G:=
 fnT (T:=T) (TU:=TU) (Γ:=[]) R7 (by rfl) (B2) Tryd.func93 rfl rfl rfl rfl (fun x=>x.2.1) (fun _=>rfl)
  (.leaf)
  (trivial) (fun a=>by kernel_rfl)
noncomputable def a4K:TFn:=⟨.cons (.c (.d (.sl .byte))) (.cons (.c (.d (.int .u64))) .nil),.nil,.cons (.c (.row .byte 5)) .nil,List UInt8,fun a=>T5 a.1 a.2.1,fun r=>((),(r,())),.none⟩
theorem a8c:FnT Tryd.prog 92 a4K:=
 fnT (T:=T) (TU:=TU) (Γ:=[]) R7 (by rfl) (B2) Tryd.func92 rfl rfl rfl rfl (fun x=>x.2.1) (fun _=>rfl)
  (.two .leaf (.two .leaf (.cut ⟨23,[(1,.one (.d (.int .u64))),(5,.one (.row 1000000))],[],[(1000000,.byte,5,false)]⟩ ⟨fun x=>(x.1.1.1,x.2.2.1),fun v=>(((v.1,()),((),())),(),(v.2,())),fun _=>rfl⟩ (fun v=>a2W v.1 v.2) (.one (.loop ⟨23,[(1,.one (.d (.int .u64))),(5,.one (.row 1000000))],[],[(1000000,.byte,5,false)]⟩ ⟨fun x=>(x.1.1.1,x.2.2.1),fun v=>(((v.1,()),((),())),(),(v.2,())),fun _=>rfl⟩ (fun v=>a2X v.1 v.2) .leaf)) .leaf)))
  (⟨trivial,⟨trivial,⟨⟨trivial,fun v=>by kernel_rfl⟩,trivial,fun v=>by kernel_rfl⟩⟩⟩) (fun a=>by kernel_rfl)
noncomputable def a2k:TFn:=⟨.cons (.c (.d (.sl .byte))) (.cons (.agg (.cons (.d A9) .nil)) .nil),.nil,.cons (.c (.row .byte 5)) (.cons (.c (.d (.int .i64))) .nil),List UInt8 × Int,fun a=>O0 a.1 a.2.1.1,fun r=>((),(r.1,(r.2,()))),.none⟩
theorem a3a:FnT Tryd.prog 82 a2k:=
 fnT (T:=T) (TU:=TU) (Γ:=[(91,a71),(93,b0G),(92,a4K)]) R7 (by rfl) (o9 b1K (o9 b4x (o9 a8c B2))) Tryd.func82 rfl rfl rfl rfl (fun x=>(x.2.1,x.2.2.1)) (fun _=>rfl)
  (.leaf)
  (trivial) (fun a=>by kernel_rfl)
noncomputable def a0V:TFn:=⟨.cons (.bx (.cons (.row .byte 5) .nil)) (.cons (.c (.d (.int .i64))) (.cons (.c (.it 9 .str rfl)) .nil)),.cons (.cons (.row .byte 5) .nil) .nil,.nil,List UInt8,fun a=>G8 a.1.1 a.2.1 a.2.2.1,fun r=>(((r,()),()),()),.none⟩
theorem a3w:FnT Tryd.prog 60 a0V:=
 fnT (T:=T) (TU:=TU) (Γ:=[(82,a2k)]) R7 (by rfl) (o9 a3a B2) Tryd.func60 rfl rfl rfl rfl (fun x=>x.1.1.1) (fun _=>rfl)
  (.leaf)
  (trivial) (fun a=>by kernel_rfl)
noncomputable def a0W:TFn:=⟨.cons (.bx (.cons (.row .byte 5) .nil)) (.cons (.c (.d (.int .i64))) (.cons (.c (.it 22 (.int .u64) rfl)) .nil)),.cons (.cons (.row .byte 5) .nil) .nil,.nil,List UInt8,fun a=>D8 a.1.1 a.2.1 a.2.2.1,fun r=>(((r,()),()),()),.none⟩
theorem a3x:FnT Tryd.prog 60 a0W:=
 fnT (T:=T) (TU:=TU) (Γ:=[(82,a2k)]) R7 (by rfl) (o9 a3a B2) Tryd.func60 rfl rfl rfl rfl (fun x=>x.1.1.1) (fun _=>rfl)
  (.leaf)
  (trivial) (fun a=>by kernel_rfl)
noncomputable def a0J:TFn:=⟨.cons (.bx (.cons (.row .byte 5) .nil)) (.cons (.c (.d (.int .i64))) (.cons (.c (.it 29 (.sl .byte) rfl)) .nil)),.cons (.cons (.row .byte 5) .nil) .nil,.nil,List UInt8,fun a=>M1 a.1.1 a.2.1 a.2.2.1,fun r=>(((r,()),()),()),.none⟩
theorem a3b:FnT Tryd.prog 60 a0J:=
 fnT (T:=T) (TU:=TU) (Γ:=[(82,a2k)]) R7 (by rfl) (o9 a3a B2) Tryd.func60 rfl rfl rfl rfl (fun x=>x.1.1.1) (fun _=>rfl)
  (.leaf)
  (trivial) (fun a=>by kernel_rfl)
noncomputable def a72:TFn:=⟨.cons (.agg (.cons (.d J6) .nil)) .nil,.nil,.cons (.c (.row .byte 5)) .nil,List UInt8,fun a=>a2Y a.1.1,fun r=>((),(r,())),.none⟩
theorem b1L:FnT Tryd.prog 35 a72:=
 fnT (T:=T) (TU:=TU) (Γ:=[(275000000000060,a0V),(600000000000060,a0W),(775000000000060,a0J)]) R7 (by rfl) (o9 a3w (o9 a3x (o9 a3b B2))) Tryd.func35 rfl rfl rfl rfl (fun x=>x.2.1) (fun _=>rfl)
  (.two .leaf (.two .leaf (.two .leaf (.two .leaf (.two .leaf (.two .leaf (.two .leaf (.two (.two .leaf (.one (.loop ⟨49,[(3,.one (.ptr 1000000 0)),(28,.one (.d (.sl A3))),(29,.one (.d (.int .i64))),(30,.one (.d (.int .i64)))],[(1000000,[.row 1000000])],[(1000000,.byte,5,false)]⟩ ⟨fun x=>(x.1.2.1.1,x.1.2.2.1.1,x.1.2.2.2.1.1,x.2.2.1),fun v=>(((),((v.1,()),((v.2.1,()),((v.2.2.1,()),())))),((),()),(v.2.2.2,())),fun _=>rfl⟩ (fun v=>a0Q v.1 v.2.1 v.2.2.1 v.2.2.2) .leaf))) .leaf))))))))
  (⟨trivial,⟨trivial,⟨trivial,⟨trivial,⟨trivial,⟨trivial,⟨trivial,⟨⟨trivial,⟨trivial,fun v=>by kernel_rfl⟩⟩,trivial⟩⟩⟩⟩⟩⟩⟩⟩) (fun a=>by kernel_rfl)
noncomputable def a6Q:TFn:=⟨.cons (.c (.d (.sl .byte))) (.cons (.c (.d (.sl .byte))) .nil),.nil,.cons (.c (.d .bool)) .nil,Bool,fun a=>a30 a.1 a.2.1,fun r=>((),(r,())),.none⟩
theorem a9Y:FnT Tryd.prog 34 a6Q:=
 fnT (T:=T) (TU:=TU) (Γ:=[]) R7 (by rfl) (B2) Tryd.func34 rfl rfl rfl rfl (fun x=>x.2.1) (fun _=>rfl)
  (.leaf)
  (trivial) (fun a=>by kernel_rfl)
noncomputable def a9r:TFn:=⟨.cons (.c (.d .str)) .nil,.nil,.cons (.c (.d .bool)) .nil,Bool,fun a=>a31 a.1,fun r=>((),(r,())),.none⟩
theorem b22:FnT Tryd.prog 61 a9r:=
 fnT (T:=T) (TU:=TU) (Γ:=[(83,C2)]) R7 (by rfl) (o9 a0M B2) Tryd.func61 rfl rfl rfl rfl (fun x=>x.2.1) (fun _=>rfl)
  (.two .leaf (.two .leaf (.two (.two .leaf (.one (.loop ⟨31,[(0,.one (.d .str)),(3,.one (.d (.int .i64))),(9,.one (.row 1000000))],[],[(1000000,(.pr .str (.int .i64)),9000000,false)]⟩ ⟨fun x=>(x.1.1.1,x.1.2.1.1,x.2.2.1),fun v=>(((v.1,()),((v.2.1,()),((),()))),(),(v.2.2,())),fun _=>rfl⟩ (fun v=>a29 v.1 v.2.1 v.2.2) .leaf))) .leaf)))
  (⟨trivial,⟨trivial,⟨⟨trivial,⟨trivial,fun v=>by kernel_rfl⟩⟩,trivial⟩⟩⟩) (fun a=>by kernel_rfl)
noncomputable def a6R:TFn:=⟨.cons (.agg (.cons (.d J6) .nil)) .nil,.nil,.cons (.c (.d (.int .i64))) .nil,Int,fun a=>a2g a.1.1,fun r=>((),(r,())),.none⟩
theorem a9Z:FnT Tryd.prog 36 a6R:=
 fnT (T:=T) (TU:=TU) (Γ:=[(30,a58),(61,a9r)]) R7 (by rfl) (o9 a7Z (o9 b22 B2)) Tryd.func36 rfl rfl rfl rfl (fun x=>x.2.1) (fun _=>rfl)
  (.two .leaf (.two .leaf (.two (.two .leaf (.one (.loop ⟨45,[(31,.one (.d (.sl A3))),(32,.one (.d (.int .i64))),(33,.one (.d (.int .i64)))],[],[]⟩ ⟨fun x=>(x.1.1.1,x.1.2.1.1,x.1.2.2.1.1),fun v=>(((v.1,()),((v.2.1,()),((v.2.2,()),()))),(),()),fun _=>rfl⟩ (fun v=>a0r v.1 v.2.1 v.2.2) .leaf))) .leaf)))
  (⟨trivial,⟨trivial,⟨⟨trivial,⟨trivial,fun v=>by kernel_rfl⟩⟩,trivial⟩⟩⟩) (fun a=>by kernel_rfl)
noncomputable def a9s:TFn:=⟨.cons (.c (.d (.sl .byte))) .nil,.nil,.cons (.agg (.cons (.d J6) .nil)) (.cons (.c (.d (.int .i64))) .nil),o8 × Int,fun a=>a2A a.1,fun r=>((),((r.1,()),(r.2,()))),.none⟩
theorem b23:FnT Tryd.prog 14 a9s:=
 fnT (T:=T) (TU:=TU) (Γ:=[(32,a34),(33,b21),(35,a72),(34,a6Q),(36,a6R)]) R7 (by rfl) (o9 a5L (o9 b63 (o9 b1L (o9 a9Y (o9 a9Z B2))))) Tryd.func14 rfl rfl rfl rfl (fun x=>(x.2.1.1,x.2.2.1)) (fun _=>rfl)
  (.leaf)
  (trivial) (fun a=>by kernel_rfl)
noncomputable def a2Z:TFn:=⟨.cons (.c (.d .str)) .nil,.nil,.cons (.c (.d .bool)) .nil,Bool,fun a=>Q6 a.1,fun r=>((),(r,())),.none⟩
theorem a6a:FnT Tryd.prog 84 a2Z:=
 fnT (T:=T) (TU:=TU) (Γ:=[]) R7 (by rfl) (B2) Tryd.func84 rfl rfl rfl rfl (fun x=>x.2.1) (fun _=>rfl)
  (.leaf)
  (trivial) (fun a=>by kernel_rfl)
noncomputable def a1X:TFn:=⟨.cons (.c (.d .str)) (.cons (.c (.d .str)) .nil),.nil,.cons (.c (.d (.int .i64))) .nil,Int,fun a=>S5 a.1 a.2.1,fun r=>((),(r,())),.none⟩
theorem a4L:FnT Tryd.prog 64 a1X:=
 fnT (T:=T) (TU:=TU) (Γ:=[(84,a2Z)]) R7 (by rfl) (o9 a6a B2) Tryd.func64 rfl rfl rfl rfl (fun x=>x.2.1) (fun _=>rfl)
  (.leaf)
  (trivial) (fun a=>by kernel_rfl)
noncomputable def a4M:TFn:=⟨.cons (.agg (.cons (.d A1) .nil)) (.cons (.c (.d .str)) .nil),.nil,.cons (.c (.d (.int .i64))) .nil,Int,fun a=>X7 a.1.1 a.2.1,fun r=>((),(r,())),.none⟩
theorem a8d:FnT Tryd.prog 63 a4M:=
 fnT (T:=T) (TU:=TU) (Γ:=[(64,a1X)]) R7 (by rfl) (o9 a4L B2) Tryd.func63 rfl rfl rfl rfl (fun x=>x.2.1) (fun _=>rfl)
  (.leaf)
  (trivial) (fun a=>by kernel_rfl)
noncomputable def C3:TFn:=⟨.cons (.c (.d (.sl A1))) (.cons (.c (.d .str)) (.cons (.c (.fn 63)) .nil)),.nil,.cons (.c (.d (.int .i64))) (.cons (.c (.d .bool)) .nil),Int × Bool,fun a=>B1 a.1 a.2.1,fun r=>((),(r.1,(r.2,()))),.none⟩
theorem G6:FnT Tryd.prog 62 C3:=
 fnT (T:=T) (TU:=TU) (Γ:=[(63,a4M)]) R7 (by rfl) (o9 a8d B2) Tryd.func62 rfl rfl rfl rfl (fun x=>(x.2.1,x.2.2.1)) (fun _=>rfl)
  (.two .leaf (.two .leaf (.two .leaf (.cut ⟨49,[(0,.one (.d (.sl A1))),(1,.one (.d .str)),(2,.one (.fn 63)),(8,.one (.d (.int .i64))),(9,.one (.d (.int .i64)))],[],[]⟩ ⟨fun x=>(x.1.1.1,x.1.2.1.1,x.1.2.2.2.1.1,x.1.2.2.2.2.1.1),fun v=>(((v.1,()),((v.2.1,()),((),((v.2.2.1,()),((v.2.2.2,()),()))))),(),()),fun _=>rfl⟩ (fun v=>B4 v.1 v.2.1 v.2.2.1 v.2.2.2) (.one (.loop ⟨49,[(0,.one (.d (.sl A1))),(1,.one (.d .str)),(2,.one (.fn 63)),(8,.one (.d (.int .i64))),(9,.one (.d (.int .i64))),(10,.one (.d (.int .i64)))],[],[]⟩ ⟨fun x=>(x.1.1.1,x.1.2.1.1,x.1.2.2.2.1.1,x.1.2.2.2.2.1.1,x.1.2.2.2.2.2.1.1),fun v=>(((v.1,()),((v.2.1,()),((),((v.2.2.1,()),((v.2.2.2.1,()),((v.2.2.2.2,()),())))))),(),()),fun _=>rfl⟩ (fun v=>B5 v.1 v.2.1 v.2.2.1 v.2.2.2.1 v.2.2.2.2) .leaf)) .leaf))))
  (⟨trivial,⟨trivial,⟨trivial,⟨⟨trivial,fun v=>by kernel_rfl⟩,trivial,fun v=>by kernel_rfl⟩⟩⟩⟩) (fun a=>by kernel_rfl)
noncomputable def a2l:TFn:=⟨.cons (.agg (.cons (.d B3) .nil)) (.cons (.c (.d .str)) .nil),.nil,.cons (.c (.d (.int .i64))) (.cons (.c (.d .bool)) .nil),Int × Bool,fun a=>U9 a.1.1 a.2.1,fun r=>((),(r.1,(r.2,()))),.none⟩
theorem a3c:FnT Tryd.prog 37 a2l:=
 fnT (T:=T) (TU:=TU) (Γ:=[(62,C3)]) R7 (by rfl) (o9 G6 B2) Tryd.func37 rfl rfl rfl rfl (fun x=>(x.2.1,x.2.2.1)) (fun _=>rfl)
  (.leaf)
  (trivial) (fun a=>by kernel_rfl)
noncomputable def a6S:TFn:=⟨.cons (.c (.d (.int .i64))) .nil,.nil,.cons (.c (.d (.int .u64))) .nil,Int,fun a=>a32 a.1,fun r=>((),(r,())),.none⟩
theorem a90:FnT Tryd.prog 65 a6S:=
 fnT (T:=T) (TU:=TU) (Γ:=[]) R7 (by rfl) (B2) Tryd.func65 rfl rfl rfl rfl (fun x=>x.2.1) (fun _=>rfl)
  (.leaf)
  (trivial) (fun a=>by kernel_rfl)
noncomputable def b0H:TFn:=⟨.cons (.c (.d (.int .i64))) (.cons (.c (.d (.int .i64))) .nil),.nil,.cons (.c (.d (.int .u64))) .nil,Int,fun a=>a7q a.1 a.2.1,fun r=>((),(r,())),.none⟩
theorem b4y:FnT Tryd.prog 38 b0H:=
 fnT (T:=T) (TU:=TU) (Γ:=[(65,a6S)]) R7 (by rfl) (o9 a90 B2) Tryd.func38 rfl rfl rfl rfl (fun x=>x.2.1) (fun _=>rfl)
  (.leaf)
  (trivial) (fun a=>by kernel_rfl)
noncomputable def a1j:TFn:=⟨.cons (.c (.d (.int .u64))) (.cons (.c (.d (.int .u64))) .nil),.nil,.cons (.c (.d (.int .u64))) (.cons (.c (.d (.int .u64))) .nil),Int × Int,fun a=>T6 a.1 a.2.1,fun r=>((),(r.1,(r.2,()))),.none⟩
theorem a20:FnT Tryd.prog 67 a1j:=
 fnT (T:=T) (TU:=TU) (Γ:=[]) R7 (by rfl) (B2) Tryd.func67 rfl rfl rfl rfl (fun x=>(x.2.1,x.2.2.1)) (fun _=>rfl)
  (.leaf)
  (trivial) (fun a=>by kernel_rfl)
noncomputable def a73:TFn:=⟨.cons (.c (.d (.int .u64))) (.cons (.c (.d .bool)) .nil),.nil,.cons (.c (.d (.int .u64))) (.cons (.c (.d .bool)) .nil),Int × Bool,fun a=>a4H a.1 a.2.1,fun r=>((),(r.1,(r.2,()))),.none⟩
theorem b1M:FnT Tryd.prog 85 a73:=
 fnT (T:=T) (TU:=TU) (Γ:=[]) R7 (by rfl) (B2) Tryd.func85 rfl rfl rfl rfl (fun x=>(x.2.1,x.2.2.1)) (fun _=>rfl)
  (.leaf)
  (trivial) (fun a=>by kernel_rfl)
noncomputable def a9t:TFn:=⟨.cons (.c (.d (.int .u64))) (.cons (.c (.d (.int .u64))) .nil),.nil,.cons (.c (.d (.int .u64))) (.cons (.c (.d .bool)) .nil),Int × Bool,fun a=>a33 a.1 a.2.1,fun r=>((),(r.1,(r.2,()))),.none⟩
theorem b24:FnT Tryd.prog 66 a9t:=
 fnT (T:=T) (TU:=TU) (Γ:=[(67,a1j),(85,a73)]) R7 (by rfl) (o9 a20 (o9 b1M B2)) Tryd.func66 rfl rfl rfl rfl (fun x=>(x.2.1,x.2.2.1)) (fun _=>rfl)
  (.leaf)
  (trivial) (fun a=>by kernel_rfl)
noncomputable def b0I:TFn:=⟨.cons (.c (.d (.int .u64))) (.cons (.c (.d (.int .u64))) .nil),.nil,.cons (.c (.d (.int .u64))) (.cons (.c (.d .bool)) .nil),Int × Bool,fun a=>a5g a.1 a.2.1,fun r=>((),(r.1,(r.2,()))),.none⟩
theorem b4z:FnT Tryd.prog 39 b0I:=
 fnT (T:=T) (TU:=TU) (Γ:=[(66,a9t)]) R7 (by rfl) (o9 b24 B2) Tryd.func39 rfl rfl rfl rfl (fun x=>(x.2.1,x.2.2.1)) (fun _=>rfl)
  (.leaf)
  (trivial) (fun a=>by kernel_rfl)
noncomputable def a4N:TFn:=⟨.cons (.agg (.cons (.d J6) .nil)) .nil,.nil,.cons (.c (.d (.int .u64))) (.cons (.c (.d .bool)) .nil),Int × Bool,fun a=>a1x a.1.1,fun r=>((),(r.1,(r.2,()))),.none⟩
theorem a6T:FnT Tryd.prog 40 a4N:=
 fnT (T:=T) (TU:=TU) (Γ:=[(57,a59)]) R7 (by rfl) (o9 a70 B2) Tryd.func40 rfl rfl rfl rfl (fun x=>(x.2.1,x.2.2.1)) (fun _=>rfl)
  (.two .leaf (.two .leaf (.cut ⟨27,[(4,.one (.row 1000000))],[],[(1000000,(.int .u64),22,false)]⟩ ⟨fun x=>x.2.2.1,fun v=>(((),()),(),(v,())),fun _=>rfl⟩ (fun v=>a2B v) (.two .leaf (.one (.loop ⟨27,[(4,.one (.row 1000000)),(11,.one (.d (.sl A3))),(12,.one (.d (.int .i64))),(13,.one (.d (.int .i64)))],[],[(1000000,(.int .u64),22,false)]⟩ ⟨fun x=>(x.1.2.1.1,x.1.2.2.1.1,x.1.2.2.2.1.1,x.2.2.1),fun v=>(((),((v.1,()),((v.2.1,()),((v.2.2.1,()),())))),(),(v.2.2.2,())),fun _=>rfl⟩ (fun v=>a0R v.1 v.2.1 v.2.2.1 v.2.2.2) .leaf))) .leaf)))
  (⟨trivial,⟨trivial,⟨⟨trivial,⟨trivial,fun v=>by kernel_rfl⟩⟩,trivial,fun v=>by kernel_rfl⟩⟩⟩) (fun a=>by kernel_rfl)
noncomputable def a6U:TFn:=⟨.cons (.agg (.cons (.d B3) .nil)) (.cons (.agg (.cons (.d J6) .nil)) .nil),.nil,.cons (.c (.d (.int .i64))) .nil,Int,fun a=>a2h a.1.1 a.2.1.1,fun r=>((),(r,())),.none⟩
theorem a91:FnT Tryd.prog 41 a6U:=
 fnT (T:=T) (TU:=TU) (Γ:=[(37,a2l)]) R7 (by rfl) (o9 a3c B2) Tryd.func41 rfl rfl rfl rfl (fun x=>x.2.1) (fun _=>rfl)
  (.two .leaf (.two .leaf (.two (.two .leaf (.one (.loop ⟨34,[(2,.one (.ptr 1000000 0)),(5,.one (.row 1000000)),(12,.one (.d (.sl A3))),(13,.one (.d (.int .i64))),(14,.one (.d (.int .i64)))],[(1000000,[.d B3])],[(1000000,(.pr .str (.arr 0 .byte)),4000005,false)]⟩ ⟨fun x=>(x.1.2.2.1.1,x.1.2.2.2.1.1,x.1.2.2.2.2.1.1,x.2.1.1.1,x.2.2.1),fun v=>(((),((),((v.1,()),((v.2.1,()),((v.2.2.1,()),()))))),((v.2.2.2.1,()),()),(v.2.2.2.2,())),fun _=>rfl⟩ (fun v=>a0s v.1 v.2.1 v.2.2.1 v.2.2.2.1 v.2.2.2.2) .leaf))) .leaf)))
  (⟨trivial,⟨trivial,⟨⟨trivial,⟨trivial,fun v=>by kernel_rfl⟩⟩,trivial⟩⟩⟩) (fun a=>by kernel_rfl)
noncomputable def a6V:TFn:=⟨.cons (.agg (.cons (.d B3) .nil)) (.cons (.c (.d (.int .u64))) (.cons (.agg (.cons (.d J6) .nil)) (.cons (.c (.d (.int .i64))) .nil))),.nil,.cons (.c (.d (.int .i64))) .nil,Int,fun a=>a2i a.1.1 a.2.1 a.2.2.1.1 a.2.2.2.1,fun r=>((),(r,())),.none⟩
theorem a92:FnT Tryd.prog 15 a6V:=
 fnT (T:=T) (TU:=TU) (Γ:=[(37,a2l),(38,b0H),(39,b0I),(40,a4N),(41,a6U)]) R7 (by rfl) (o9 a3c (o9 b4y (o9 b4z (o9 a6T (o9 a91 B2))))) Tryd.func15 rfl rfl rfl rfl (fun x=>x.2.1) (fun _=>rfl)
  (.leaf)
  (trivial) (fun a=>by kernel_rfl)
noncomputable def a3y:TFn:=⟨.cons (.c (.d (.int .u64))) .nil,.nil,.cons (.c (.d (.int .i64))) .nil,Int,fun a=>Z3 a.1,fun r=>((),(r,())),.none⟩
theorem a6W:FnT Tryd.prog 95 a3y:=
 fnT (T:=T) (TU:=TU) (Γ:=[]) R7 (by rfl) (B2) Tryd.func95 rfl rfl rfl rfl (fun x=>x.2.1) (fun _=>rfl)
  (.two .leaf (.cut ⟨25,[(0,.one (.d (.int .u64))),(2,.one (.d (.int .i64)))],[],[]⟩ ⟨fun x=>(x.1.1.1,x.1.2.1.1),fun v=>(((v.1,()),((v.2,()),())),(),()),fun _=>rfl⟩ (fun v=>N4 v.1 v.2) .leaf (.cut ⟨25,[(0,.one (.d (.int .u64))),(2,.one (.d (.int .i64)))],[],[]⟩ ⟨fun x=>(x.1.1.1,x.1.2.1.1),fun v=>(((v.1,()),((v.2,()),())),(),()),fun _=>rfl⟩ (fun v=>N3 v.1 v.2) .leaf (.cut ⟨25,[(0,.one (.d (.int .u64))),(2,.one (.d (.int .i64)))],[],[]⟩ ⟨fun x=>(x.1.1.1,x.1.2.1.1),fun v=>(((v.1,()),((v.2,()),())),(),()),fun _=>rfl⟩ (fun v=>N2 v.1 v.2) .leaf .leaf))))
  (⟨trivial,⟨trivial,⟨trivial,⟨trivial,trivial,fun v=>by kernel_rfl⟩,fun v=>by kernel_rfl⟩,fun v=>by kernel_rfl⟩⟩) (fun a=>by kernel_rfl)
noncomputable def a0b:TFn:=⟨.cons (.c (.d (.int .u64))) .nil,.nil,.cons (.c (.d (.int .i64))) .nil,Int,fun a=>J7 a.1,fun r=>((),(r,())),.none⟩
theorem a2G:FnT Tryd.prog 86 a0b:=
 fnT (T:=T) (TU:=TU) (Γ:=[(95,a3y)]) R7 (by rfl) (o9 a6W B2) Tryd.func86 rfl rfl rfl rfl (fun x=>x.2.1) (fun _=>rfl)
  (.leaf)
  (trivial) (fun a=>by kernel_rfl)
noncomputable def a3z:TFn:=⟨.cons (.c (.d (.int .u64))) (.cons (.c (.d (.int .u64))) (.cons (.c (.d (.int .u64))) .nil)),.nil,.cons (.c (.d (.int .u64))) (.cons (.c (.d (.int .u64))) .nil),Int × Int,fun a=>Z4 a.1 a.2.1 a.2.2.1,fun r=>((),(r.1,(r.2,()))),.none⟩
theorem a6X:FnT Tryd.prog 68 a3z:=
 fnT (T:=T) (TU:=TU) (Γ:=[(86,a0b)]) R7 (by rfl) (o9 a2G B2) Tryd.func68 rfl rfl rfl rfl (fun x=>(x.2.1,x.2.2.1)) (fun _=>rfl)
  (.two .leaf (.two .leaf (.two .leaf (.two .leaf (.two .leaf (.two .leaf (.two .leaf (.two .leaf (.two .leaf (.two .leaf (.two .leaf (.two .leaf (.two .leaf (.two .leaf (.cut ⟨135,[(2,.one (.d (.int .u64))),(8,.one (.d (.int .u64))),(9,.one (.d (.int .u64))),(10,.one (.d (.int .u64))),(11,.one (.d (.int .u64))),(13,.one (.d (.int .u64))),(14,.one (.d (.int .u64))),(15,.one (.d (.int .u64)))],[],[]⟩ ⟨fun x=>(x.1.1.1,x.1.2.1.1,x.1.2.2.1.1,x.1.2.2.2.1.1,x.1.2.2.2.2.1.1,x.1.2.2.2.2.2.1.1,x.1.2.2.2.2.2.2.1.1,x.1.2.2.2.2.2.2.2.1.1),fun v=>(((v.1,()),((v.2.1,()),((v.2.2.1,()),((v.2.2.2.1,()),((v.2.2.2.2.1,()),((v.2.2.2.2.2.1,()),((v.2.2.2.2.2.2.1,()),((v.2.2.2.2.2.2.2,()),())))))))),(),()),fun _=>rfl⟩ (fun v=>H2 v.1 v.2.1 v.2.2.1 v.2.2.2.1 v.2.2.2.2.1 v.2.2.2.2.2.1 v.2.2.2.2.2.2.1 v.2.2.2.2.2.2.2) (.one (.loop ⟨135,[(2,.one (.d (.int .u64))),(8,.one (.d (.int .u64))),(9,.one (.d (.int .u64))),(10,.one (.d (.int .u64))),(11,.one (.d (.int .u64))),(13,.one (.d (.int .u64))),(14,.one (.d (.int .u64))),(15,.one (.d (.int .u64))),(16,.one (.d (.int .u64)))],[],[]⟩ ⟨fun x=>(x.1.1.1,x.1.2.1.1,x.1.2.2.1.1,x.1.2.2.2.1.1,x.1.2.2.2.2.1.1,x.1.2.2.2.2.2.1.1,x.1.2.2.2.2.2.2.1.1,x.1.2.2.2.2.2.2.2.1.1,x.1.2.2.2.2.2.2.2.2.1.1),fun v=>(((v.1,()),((v.2.1,()),((v.2.2.1,()),((v.2.2.2.1,()),((v.2.2.2.2.1,()),((v.2.2.2.2.2.1,()),((v.2.2.2.2.2.2.1,()),((v.2.2.2.2.2.2.2.1,()),((v.2.2.2.2.2.2.2.2,()),()))))))))),(),()),fun _=>rfl⟩ (fun v=>a0f v.1 v.2.1 v.2.2.1 v.2.2.2.1 v.2.2.2.2.1 v.2.2.2.2.2.1 v.2.2.2.2.2.2.1 v.2.2.2.2.2.2.2.1 v.2.2.2.2.2.2.2.2) (.cut ⟨135,[(2,.one (.d (.int .u64))),(8,.one (.d (.int .u64))),(9,.one (.d (.int .u64))),(10,.one (.d (.int .u64))),(11,.one (.d (.int .u64))),(13,.one (.d (.int .u64))),(14,.one (.d (.int .u64))),(15,.one (.d (.int .u64))),(16,.one (.d (.int .u64)))],[],[]⟩ ⟨fun x=>(x.1.1.1,x.1.2.1.1,x.1.2.2.1.1,x.1.2.2.2.1.1,x.1.2.2.2.2.1.1,x.1.2.2.2.2.2.1.1,x.1.2.2.2.2.2.2.1.1,x.1.2.2.2.2.2.2.2.1.1,x.1.2.2.2.2.2.2.2.2.1.1),fun v=>(((v.1,()),((v.2.1,()),((v.2.2.1,()),((v.2.2.2.1,()),((v.2.2.2.2.1,()),((v.2.2.2.2.2.1,()),((v.2.2.2.2.2.2.1,()),((v.2.2.2.2.2.2.2.1,()),((v.2.2.2.2.2.2.2.2,()),()))))))))),(),()),fun _=>rfl⟩ (fun v=>N7 v.1 v.2.1 v.2.2.1 v.2.2.2.1 v.2.2.2.2.1 v.2.2.2.2.2.1 v.2.2.2.2.2.2.1 v.2.2.2.2.2.2.2.1 v.2.2.2.2.2.2.2.2) .leaf .leaf))) (.two .leaf (.two .leaf (.two .leaf (.cut ⟨135,[(2,.one (.d (.int .u64))),(8,.one (.d (.int .u64))),(14,.one (.d (.int .u64))),(15,.one (.d (.int .u64))),(17,.one (.d (.int .u64))),(18,.one (.d (.int .u64)))],[],[]⟩ ⟨fun x=>(x.1.1.1,x.1.2.1.1,x.1.2.2.1.1,x.1.2.2.2.1.1,x.1.2.2.2.2.1.1,x.1.2.2.2.2.2.1.1),fun v=>(((v.1,()),((v.2.1,()),((v.2.2.1,()),((v.2.2.2.1,()),((v.2.2.2.2.1,()),((v.2.2.2.2.2,()),())))))),(),()),fun _=>rfl⟩ (fun v=>N5 v.1 v.2.1 v.2.2.1 v.2.2.2.1 v.2.2.2.2.1 v.2.2.2.2.2) (.one (.loop ⟨135,[(2,.one (.d (.int .u64))),(8,.one (.d (.int .u64))),(9,.one (.d (.int .u64))),(10,.one (.d (.int .u64))),(14,.one (.d (.int .u64))),(15,.one (.d (.int .u64))),(16,.one (.d (.int .u64))),(17,.one (.d (.int .u64))),(18,.one (.d (.int .u64)))],[],[]⟩ ⟨fun x=>(x.1.1.1,x.1.2.1.1,x.1.2.2.1.1,x.1.2.2.2.1.1,x.1.2.2.2.2.1.1,x.1.2.2.2.2.2.1.1,x.1.2.2.2.2.2.2.1.1,x.1.2.2.2.2.2.2.2.1.1,x.1.2.2.2.2.2.2.2.2.1.1),fun v=>(((v.1,()),((v.2.1,()),((v.2.2.1,()),((v.2.2.2.1,()),((v.2.2.2.2.1,()),((v.2.2.2.2.2.1,()),((v.2.2.2.2.2.2.1,()),((v.2.2.2.2.2.2.2.1,()),((v.2.2.2.2.2.2.2.2,()),()))))))))),(),()),fun _=>rfl⟩ (fun v=>a0e v.1 v.2.1 v.2.2.1 v.2.2.2.1 v.2.2.2.2.1 v.2.2.2.2.2.1 v.2.2.2.2.2.2.1 v.2.2.2.2.2.2.2.1 v.2.2.2.2.2.2.2.2) (.cut ⟨135,[(2,.one (.d (.int .u64))),(8,.one (.d (.int .u64))),(9,.one (.d (.int .u64))),(10,.one (.d (.int .u64))),(14,.one (.d (.int .u64))),(15,.one (.d (.int .u64))),(16,.one (.d (.int .u64))),(17,.one (.d (.int .u64))),(18,.one (.d (.int .u64)))],[],[]⟩ ⟨fun x=>(x.1.1.1,x.1.2.1.1,x.1.2.2.1.1,x.1.2.2.2.1.1,x.1.2.2.2.2.1.1,x.1.2.2.2.2.2.1.1,x.1.2.2.2.2.2.2.1.1,x.1.2.2.2.2.2.2.2.1.1,x.1.2.2.2.2.2.2.2.2.1.1),fun v=>(((v.1,()),((v.2.1,()),((v.2.2.1,()),((v.2.2.2.1,()),((v.2.2.2.2.1,()),((v.2.2.2.2.2.1,()),((v.2.2.2.2.2.2.1,()),((v.2.2.2.2.2.2.2.1,()),((v.2.2.2.2.2.2.2.2,()),()))))))))),(),()),fun _=>rfl⟩ (fun v=>N6 v.1 v.2.1 v.2.2.1 v.2.2.2.1 v.2.2.2.2.1 v.2.2.2.2.2.1 v.2.2.2.2.2.2.1 v.2.2.2.2.2.2.2.1 v.2.2.2.2.2.2.2.2) .leaf .leaf))) .leaf)))))))))))))))))))
  (⟨trivial,⟨trivial,⟨trivial,⟨trivial,⟨trivial,⟨trivial,⟨trivial,⟨trivial,⟨trivial,⟨trivial,⟨trivial,⟨trivial,⟨trivial,⟨trivial,⟨⟨⟨trivial,trivial,fun v=>by kernel_rfl⟩,fun v=>by kernel_rfl⟩,⟨trivial,⟨trivial,⟨trivial,⟨⟨⟨trivial,trivial,fun v=>by kernel_rfl⟩,fun v=>by kernel_rfl⟩,trivial,fun v=>by kernel_rfl⟩⟩⟩⟩,fun v=>by kernel_rfl⟩⟩⟩⟩⟩⟩⟩⟩⟩⟩⟩⟩⟩⟩⟩) (fun a=>by kernel_rfl)
noncomputable def a5M:TFn:=⟨.cons (.c (.d (.int .u64))) (.cons (.c (.d (.int .u64))) (.cons (.c (.d (.int .u64))) .nil)),.nil,.cons (.c (.d (.int .u64))) (.cons (.c (.d .bool)) .nil),Int × Bool,fun a=>a1p a.1 a.2.1 a.2.2.1,fun r=>((),(r.1,(r.2,()))),.none⟩
theorem a9u:FnT Tryd.prog 42 a5M:=
 fnT (T:=T) (TU:=TU) (Γ:=[(67,a1j),(68,a3z)]) R7 (by rfl) (o9 a20 (o9 a6X B2)) Tryd.func42 rfl rfl rfl rfl (fun x=>(x.2.1,x.2.2.1)) (fun _=>rfl)
  (.leaf)
  (trivial) (fun a=>by kernel_rfl)
noncomputable def a5N:TFn:=⟨.cons (.c (.d (.int .u64))) (.cons (.c (.d (.int .u64))) .nil),.nil,.cons (.c (.d (.int .u64))) .nil,Int,fun a=>a0n a.1 a.2.1,fun r=>((),(r,())),.none⟩
theorem a9v:FnT Tryd.prog 16 a5N:=
 fnT (T:=T) (TU:=TU) (Γ:=[(42,a5M)]) R7 (by rfl) (o9 a9u B2) Tryd.func16 rfl rfl rfl rfl (fun x=>x.2.1) (fun _=>rfl)
  (.leaf)
  (trivial) (fun a=>by kernel_rfl)
def L8:TFn:=a4D A1 24
theorem X3:FnT Tryd.prog 43 L8:=b61 (by kernel_rfl) (by kernel_rfl)
noncomputable def a6Y:TFn:=⟨.cons (.agg (.cons (.row A1 24) (.cons (.d (.int .u64)) .nil))) (.cons (.agg (.cons (.d J6) .nil)) .nil),.nil,.cons (.agg (.cons (.row A1 24) (.cons (.d (.int .u64)) .nil))) .nil,List o3 × Int,fun a=>a2j a.1.1 a.1.2.1 a.2.1.1,fun r=>((),((r.1,(r.2,())),())),.none⟩
theorem a93:FnT Tryd.prog 17 a6Y:=
 fnT (T:=T) (TU:=TU) (Γ:=[(40,a4N),(37,a2l),(43,L8)]) R7 (by rfl) (o9 a6T (o9 a3c (o9 X3 B2))) Tryd.func17 rfl rfl rfl rfl (fun x=>(x.2.1.1,x.2.1.2.1)) (fun _=>rfl)
  (.two .leaf (.two .leaf (.two .leaf (.two .leaf (.two .leaf (.cut ⟨88,[(2,.one (.ptr 1000000 0)),(3,.one (.ptr 1000001 0)),(4,.one (.ptr 1000002 0))],[(1000000,[.row 1000000,.d (.int .u64)]),(1000001,[.d J6]),(1000002,[.nil,.d (.int .u64)])],[(1000000,A1,24,false)]⟩ ⟨fun x=>(x.2.1.1.1,x.2.1.2.1.1,x.2.1.2.2.1.1,x.2.2.1),fun v=>(((),((),((),()))),((v.1,()),((v.2.1,()),((v.2.2.1,()),()))),(v.2.2.2,())),fun _=>rfl⟩ (fun v=>a1Q v.1 v.2.1 v.2.2.1 v.2.2.2) (.two .leaf (.one (.loop ⟨88,[(2,.one (.ptr 1000000 0)),(3,.one (.ptr 1000001 0)),(4,.one (.ptr 1000002 0)),(45,.one (.d (.sl A3))),(46,.one (.d (.int .i64))),(47,.one (.d (.int .i64)))],[(1000000,[.row 1000000,.d (.int .u64)]),(1000001,[.d J6]),(1000002,[.nil,.d (.int .u64)])],[(1000000,A1,24,false)]⟩ ⟨fun x=>(x.1.2.2.2.1.1,x.1.2.2.2.2.1.1,x.1.2.2.2.2.2.1.1,x.2.1.1.1,x.2.1.2.1.1,x.2.1.2.2.1.1,x.2.2.1),fun v=>(((),((),((),((v.1,()),((v.2.1,()),((v.2.2.1,()),())))))),((v.2.2.2.1,()),((v.2.2.2.2.1,()),((v.2.2.2.2.2.1,()),()))),(v.2.2.2.2.2.2,())),fun _=>rfl⟩ (fun v=>a0t v.1 v.2.1 v.2.2.1 v.2.2.2.1 v.2.2.2.2.1 v.2.2.2.2.2.1 v.2.2.2.2.2.2) (.two .leaf (.two .leaf (.two (.one (.two .leaf (.two .leaf (.cut ⟨88,[(2,.one (.ptr 1000000 0)),(3,.one (.ptr 1000001 0)),(4,.one (.ptr 1000002 0)),(10,.one (.ptr 1000003 0)),(11,.one (.d (.int .i64))),(45,.one (.d (.sl A3))),(46,.one (.d (.int .i64))),(47,.one (.d (.int .i64)))],[(1000000,[.row 1000000,.d (.int .u64)]),(1000001,[.d J6]),(1000002,[.nil,.d (.int .u64)]),(1000003,[.d A3])],[(1000000,A1,24,false)]⟩ ⟨fun x=>(x.1.2.2.2.2.1.1,x.1.2.2.2.2.2.1.1,x.1.2.2.2.2.2.2.1.1,x.1.2.2.2.2.2.2.2.1.1,x.2.1.1.1,x.2.1.2.1.1,x.2.1.2.2.1.1,x.2.1.2.2.2.1.1,x.2.2.1),fun v=>(((),((),((),((),((v.1,()),((v.2.1,()),((v.2.2.1,()),((v.2.2.2.1,()),())))))))),((v.2.2.2.2.1,()),((v.2.2.2.2.2.1,()),((v.2.2.2.2.2.2.1,()),((v.2.2.2.2.2.2.2.1,()),())))),(v.2.2.2.2.2.2.2.2,())),fun _=>rfl⟩ (fun v=>W2 v.1 v.2.1 v.2.2.1 v.2.2.2.1 v.2.2.2.2.1 v.2.2.2.2.2.1 v.2.2.2.2.2.2.1 v.2.2.2.2.2.2.2.1 v.2.2.2.2.2.2.2.2) .leaf .leaf)))) .leaf)))))) .leaf))))))
  (⟨trivial,⟨trivial,⟨trivial,⟨trivial,⟨trivial,⟨⟨trivial,⟨⟨trivial,⟨trivial,⟨⟨trivial,⟨trivial,⟨trivial,trivial,fun v=>by kernel_rfl⟩⟩⟩,trivial⟩⟩⟩,fun v=>by kernel_rfl⟩⟩,trivial,fun v=>by kernel_rfl⟩⟩⟩⟩⟩⟩) (fun a=>by kernel_rfl)
noncomputable def a7r:TFn:=⟨.cons (.agg (.cons (.d B3) .nil)) (.cons (.c (.d (.int .u64))) (.cons (.c (.d (.sl .byte))) .nil)),.nil,.cons (.agg (.cons (.d B3) .nil)) (.cons (.agg (.cons (.d a1u) .nil)) .nil),o7 × U0,fun a=>a2u a.1.1 a.2.1 a.2.2.1,fun r=>((),((r.1,()),((r.2,()),()))),.none⟩
theorem a9w:FnT Tryd.prog 6 a7r:=
 fnT (T:=T) (TU:=TU) (Γ:=[(12,a7Y),(13,a3v),(14,a9s),(15,a6V),(16,a5N),(17,a6Y)]) R7 (by rfl) (o9 b1J (o9 a6N (o9 b23 (o9 a92 (o9 a9v (o9 a93 B2)))))) Tryd.func6 rfl rfl rfl rfl (fun x=>(x.2.1.1,x.2.2.1.1)) (fun _=>rfl)
  (.leaf)
  (trivial) (fun a=>by kernel_rfl)
noncomputable def a1k:TFn:=⟨.cons (.c (.d (.int .u64))) (.cons (.c (.d (.int .u64))) .nil),.nil,.cons (.c (.d (.int .u64))) (.cons (.c (.d .bool)) .nil),Int × Bool,fun a=>T7 a.1 a.2.1,fun r=>((),(r.1,(r.2,()))),.none⟩
theorem a22:FnT Tryd.prog 71 a1k:=
 fnT (T:=T) (TU:=TU) (Γ:=[]) R7 (by rfl) (B2) Tryd.func71 rfl rfl rfl rfl (fun x=>(x.2.1,x.2.2.1)) (fun _=>rfl)
  (.leaf)
  (trivial) (fun a=>by kernel_rfl)
noncomputable def a1Y:TFn:=⟨.cons (.agg (.cons (.d B3) .nil)) .nil,.nil,.cons (.c (.d (.int .u64))) (.cons (.c (.d .bool)) .nil),Int × Bool,fun a=>S6 a.1.1,fun r=>((),(r.1,(r.2,()))),.none⟩
theorem a4O:FnT Tryd.prog 44 a1Y:=
 fnT (T:=T) (TU:=TU) (Γ:=[(71,a1k)]) R7 (by rfl) (o9 a22 B2) Tryd.func44 rfl rfl rfl rfl (fun x=>(x.2.1,x.2.2.1)) (fun _=>rfl)
  (.two .leaf (.two .leaf (.two (.two .leaf (.one (.loop ⟨30,[(4,.one (.d (.int .u64))),(12,.one (.d (.sl A1))),(13,.one (.d (.int .i64))),(14,.one (.d (.int .i64)))],[],[]⟩ ⟨fun x=>(x.1.1.1,x.1.2.1.1,x.1.2.2.1.1,x.1.2.2.2.1.1),fun v=>(((v.1,()),((v.2.1,()),((v.2.2.1,()),((v.2.2.2,()),())))),(),()),fun _=>rfl⟩ (fun v=>O1 v.1 v.2.1 v.2.2.1 v.2.2.2) .leaf))) .leaf)))
  (⟨trivial,⟨trivial,⟨⟨trivial,⟨trivial,fun v=>by kernel_rfl⟩⟩,trivial⟩⟩⟩) (fun a=>by kernel_rfl)
noncomputable def W4:TFn:=⟨.cons (.agg (.cons (.d B3) .nil)) .nil,.nil,.cons (.c (.d (.int .i64))) .nil,Int,fun a=>H6 a.1.1,fun r=>((),(r,())),.none⟩
theorem a1B:FnT Tryd.prog 18 W4:=
 fnT (T:=T) (TU:=TU) (Γ:=[(24,Y1),(44,a1Y)]) R7 (by rfl) (o9 a06 (o9 a4O B2)) Tryd.func18 rfl rfl rfl rfl (fun x=>x.2.1) (fun _=>rfl)
  (.two .leaf (.two .leaf (.cut ⟨59,[(1,.one (.ptr 1000000 0))],[(1000000,[.d B3])],[]⟩ ⟨fun x=>x.2.1.1.1,fun v=>(((),()),((v,()),()),()),fun _=>rfl⟩ (fun v=>J5 v) (.two .leaf (.one (.loop ⟨59,[(1,.one (.ptr 1000000 0)),(12,.one (.d (.sl A1))),(13,.one (.d (.int .i64))),(14,.one (.d (.int .i64)))],[(1000000,[.d B3])],[]⟩ ⟨fun x=>(x.1.2.1.1,x.1.2.2.1.1,x.1.2.2.2.1.1,x.2.1.1.1),fun v=>(((),((v.1,()),((v.2.1,()),((v.2.2.1,()),())))),((v.2.2.2,()),()),()),fun _=>rfl⟩ (fun v=>F0 v.1 v.2.1 v.2.2.1 v.2.2.2) (.two .leaf (.two .leaf (.two (.one (.two .leaf (.two .leaf (.cut ⟨59,[(1,.one (.ptr 1000000 0)),(3,.one (.d (.int .i64))),(4,.one (.ptr 1000001 0)),(12,.one (.d (.sl A1))),(13,.one (.d (.int .i64))),(14,.one (.d (.int .i64)))],[(1000000,[.d B3]),(1000001,[.d A1])],[]⟩ ⟨fun x=>(x.1.2.1.1,x.1.2.2.2.1.1,x.1.2.2.2.2.1.1,x.1.2.2.2.2.2.1.1,x.2.1.1.1,x.2.1.2.1.1),fun v=>(((),((v.1,()),((),((v.2.1,()),((v.2.2.1,()),((v.2.2.2.1,()),())))))),((v.2.2.2.2.1,()),((v.2.2.2.2.2,()),())),()),fun _=>rfl⟩ (fun v=>D4 v.1 v.2.1 v.2.2.1 v.2.2.2.1 v.2.2.2.2.1 v.2.2.2.2.2) .leaf .leaf)))) .leaf)))))) .leaf)))
  (⟨trivial,⟨trivial,⟨⟨trivial,⟨⟨trivial,⟨trivial,⟨⟨trivial,⟨trivial,⟨trivial,trivial,fun v=>by kernel_rfl⟩⟩⟩,trivial⟩⟩⟩,fun v=>by kernel_rfl⟩⟩,trivial,fun v=>by kernel_rfl⟩⟩⟩) (fun a=>by kernel_rfl)
noncomputable def a23:TFn:=⟨.cons (.c (.d (.sl .byte))) .nil,.nil,.cons (.c (.d (.int .u64))) (.cons (.c (.d (.int .i64))) (.cons (.c (.d (.int .i64))) .nil)),Int × Int × Int,fun a=>E4 a.1,fun r=>((),(r.1,(r.2.1,(r.2.2,())))),.none⟩
theorem a6b:FnT Tryd.prog 88 a23:=
 fnT (T:=T) (TU:=TU) (Γ:=[]) R7 (by rfl) (B2) Tryd.func88 rfl rfl rfl rfl (fun x=>(x.2.1,x.2.2.1,x.2.2.2.1)) (fun _=>rfl)
  (.two .leaf (.two .leaf (.two .leaf (.one (.loop ⟨53,[(0,.one (.d (.sl .byte))),(5,.one (.d (.int .u64))),(6,.one (.d (.int .i64)))],[],[]⟩ ⟨fun x=>(x.1.1.1,x.1.2.1.1,x.1.2.2.1.1),fun v=>(((v.1,()),((v.2.1,()),((v.2.2,()),()))),(),()),fun _=>rfl⟩ (fun v=>L6 v.1 v.2.1 v.2.2) (.two (.one (.cut ⟨53,[(0,.one (.d (.sl .byte))),(5,.one (.d (.int .u64))),(6,.one (.d (.int .i64)))],[],[]⟩ ⟨fun x=>(x.1.1.1,x.1.2.1.1,x.1.2.2.1.1),fun v=>(((v.1,()),((v.2.1,()),((v.2.2,()),()))),(),()),fun _=>rfl⟩ (fun v=>F8 v.1 v.2.1 v.2.2) (.one (.two .leaf (.two .leaf (.cut ⟨53,[(0,.one (.d (.sl .byte))),(5,.one (.d (.int .u64))),(6,.one (.d (.int .i64))),(14,.one (.d .bool))],[],[]⟩ ⟨fun x=>(x.1.1.1,x.1.2.1.1,x.1.2.2.1.1,x.1.2.2.2.1.1),fun v=>(((v.1,()),((v.2.1,()),((v.2.2.1,()),((v.2.2.2,()),())))),(),()),fun _=>rfl⟩ (fun v=>F9 v.1 v.2.1 v.2.2.1 v.2.2.2) .leaf .leaf)))) .leaf)) .leaf))))))
  (⟨trivial,⟨trivial,⟨trivial,⟨⟨⟨⟨trivial,⟨trivial,⟨trivial,trivial,fun v=>by kernel_rfl⟩⟩⟩,trivial,fun v=>by kernel_rfl⟩,trivial⟩,fun v=>by kernel_rfl⟩⟩⟩⟩) (fun a=>by kernel_rfl)
noncomputable def a3A:TFn:=⟨.cons (.c (.d (.sl .byte))) .nil,.nil,.cons (.agg (.cons (.d A9) .nil)) (.cons (.c (.d (.int .i64))) (.cons (.c (.d (.int .i64))) .nil)),o6 × Int × Int,fun a=>T8 a.1,fun r=>((),((r.1,()),(r.2.1,(r.2.2,())))),.none⟩
theorem a6Z:FnT Tryd.prog 72 a3A:=
 fnT (T:=T) (TU:=TU) (Γ:=[(88,a23)]) R7 (by rfl) (o9 a6b B2) Tryd.func72 rfl rfl rfl rfl (fun x=>(x.2.1.1,x.2.2.1,x.2.2.2.1)) (fun _=>rfl)
  (.two .leaf (.two .leaf (.two .leaf (.two .leaf (.cut ⟨98,[(0,.one (.d (.sl .byte))),(2,.one (.ptr 1000000 0)),(5,.one (.d (.int .u64))),(6,.one (.d (.int .i64))),(8,.one (.d (.int .i64)))],[(1000000,[.d A9])],[]⟩ ⟨fun x=>(x.1.1.1,x.1.2.2.1.1,x.1.2.2.2.1.1,x.1.2.2.2.2.1.1,x.2.1.1.1),fun v=>(((v.1,()),((),((v.2.1,()),((v.2.2.1,()),((v.2.2.2.1,()),()))))),((v.2.2.2.2,()),()),()),fun _=>rfl⟩ (fun v=>J4 v.1 v.2.1 v.2.2.1 v.2.2.2.1 v.2.2.2.2) .leaf .leaf)))))
  (⟨trivial,⟨trivial,⟨trivial,⟨trivial,⟨trivial,trivial,fun v=>by kernel_rfl⟩⟩⟩⟩⟩) (fun a=>by kernel_rfl)
noncomputable def a0g:TFn:=⟨.cons (.c (.d (.sl .byte))) .nil,.nil,.cons (.c (.row A9 64)) (.cons (.c (.d (.int .i64))) (.cons (.c (.d (.int .i64))) .nil)),List o6 × Int × Int,fun a=>H3 a.1,fun r=>((),(r.1,(r.2.1,(r.2.2,())))),.none⟩
theorem a1C:FnT Tryd.prog 45 a0g:=
 fnT (T:=T) (TU:=TU) (Γ:=[(72,a3A)]) R7 (by rfl) (o9 a6Z B2) Tryd.func45 rfl rfl rfl rfl (fun x=>(x.2.1,x.2.2.1,x.2.2.2.1)) (fun _=>rfl)
  (.two .leaf (.two .leaf (.two .leaf (.cut ⟨38,[(5,.one (.row 1000000))],[],[(1000000,A9,64,false)]⟩ ⟨fun x=>x.2.2.1,fun v=>(((),()),(),(v,())),fun _=>rfl⟩ (fun v=>O2 v) (.one (.loop ⟨38,[(0,.one (.d (.sl .byte))),(5,.one (.row 1000000)),(6,.one (.d (.int .i64)))],[],[(1000000,A9,64,false)]⟩ ⟨fun x=>(x.1.1.1,x.1.2.2.1.1,x.2.2.1),fun v=>(((v.1,()),((),((v.2.1,()),()))),(),(v.2.2,())),fun _=>rfl⟩ (fun v=>C5 v.1 v.2.1 v.2.2) .leaf)) .leaf))))
  (⟨trivial,⟨trivial,⟨trivial,⟨⟨trivial,fun v=>by kernel_rfl⟩,trivial,fun v=>by kernel_rfl⟩⟩⟩⟩) (fun a=>by kernel_rfl)
noncomputable def V6:TFn:=⟨.cons (.c (.d (.sl .byte))) (.cons (.c (.d (.sl .byte))) .nil),.nil,.cons (.c (.d .bool)) .nil,Bool,fun a=>J1 a.1 a.2.1,fun r=>((),(r,())),.none⟩
theorem a0K:FnT Tryd.prog 47 V6:=
 fnT (T:=T) (TU:=TU) (Γ:=[]) R7 (by rfl) (B2) Tryd.func47 rfl rfl rfl rfl (fun x=>x.2.1) (fun _=>rfl)
  (.leaf)
  (trivial) (fun a=>by kernel_rfl)
noncomputable def a0X:TFn:=⟨.cons (.c (.d (.sl .byte))) .nil,.nil,.cons (.agg (.cons (.d A3) .nil)) (.cons (.c (.d .bool)) .nil),o4 × Bool,fun a=>O3 a.1,fun r=>((),((r.1,()),(r.2,()))),.none⟩
theorem a3B:FnT Tryd.prog 73 a0X:=
 fnT (T:=T) (TU:=TU) (Γ:=[(45,a0g),(26,a0y),(27,Y2),(28,Y3),(47,V6)]) R7 (by rfl) (o9 a1C (o9 a1U (o9 a07 (o9 a08 (o9 a0K B2))))) Tryd.func73 rfl rfl rfl rfl (fun x=>(x.2.1.1,x.2.2.1)) (fun _=>rfl)
  (.two .leaf (.two .leaf (.two .leaf (.cut ⟨63,[(0,.one (.d (.sl .byte))),(2,.one (.ptr 1000000 0)),(6,.one (.d (.int .i64))),(7,.one (.ptr 1000001 0))],[(1000000,[.d A3]),(1000001,[.d A3])],[]⟩ ⟨fun x=>(x.1.1.1,x.1.2.2.1.1,x.2.1.1.1,x.2.1.2.1.1),fun v=>(((v.1,()),((),((v.2.1,()),((),())))),((v.2.2.1,()),((v.2.2.2,()),())),()),fun _=>rfl⟩ (fun v=>P9 v.1 v.2.1 v.2.2.1 v.2.2.2) (.two .leaf (.one (.loop ⟨63,[(0,.one (.d (.sl .byte))),(2,.one (.ptr 1000000 0)),(6,.one (.d (.int .i64))),(7,.one (.ptr 1000001 0)),(16,.one (.row 1000000)),(17,.one (.d (.int .i64))),(18,.one (.d (.int .i64)))],[(1000000,[.d A3]),(1000001,[.d A3])],[(1000000,A9,64,false)]⟩ ⟨fun x=>(x.1.1.1,x.1.2.2.1.1,x.1.2.2.2.2.2.1.1,x.1.2.2.2.2.2.2.1.1,x.2.1.1.1,x.2.1.2.1.1,x.2.2.1),fun v=>(((v.1,()),((),((v.2.1,()),((),((),((v.2.2.1,()),((v.2.2.2.1,()),()))))))),((v.2.2.2.2.1,()),((v.2.2.2.2.2.1,()),())),(v.2.2.2.2.2.2,())),fun _=>rfl⟩ (fun v=>K0 v.1 v.2.1 v.2.2.1 v.2.2.2.1 v.2.2.2.2.1 v.2.2.2.2.2.1 v.2.2.2.2.2.2) (.two .leaf (.two .leaf (.two (.one (.two .leaf (.one (.cut ⟨63,[(0,.one (.d (.sl .byte))),(2,.one (.ptr 1000000 0)),(6,.one (.d (.int .i64))),(7,.one (.ptr 1000001 0)),(9,.one (.ptr 1000002 0)),(16,.one (.row 1000000)),(17,.one (.d (.int .i64))),(18,.one (.d (.int .i64))),(23,.one (.d .bool))],[(1000000,[.d A3]),(1000001,[.d A3]),(1000002,[.d A9])],[(1000000,A9,64,false)]⟩ ⟨fun x=>(x.1.1.1,x.1.2.2.1.1,x.1.2.2.2.2.2.2.1.1,x.1.2.2.2.2.2.2.2.1.1,x.1.2.2.2.2.2.2.2.2.1.1,x.2.1.1.1,x.2.1.2.1.1,x.2.1.2.2.1.1,x.2.2.1),fun v=>(((v.1,()),((),((v.2.1,()),((),((),((),((v.2.2.1,()),((v.2.2.2.1,()),((v.2.2.2.2.1,()),()))))))))),((v.2.2.2.2.2.1,()),((v.2.2.2.2.2.2.1,()),((v.2.2.2.2.2.2.2.1,()),()))),(v.2.2.2.2.2.2.2.2,())),fun _=>rfl⟩ (fun v=>J9 v.1 v.2.1 v.2.2.1 v.2.2.2.1 v.2.2.2.2.1 v.2.2.2.2.2.1 v.2.2.2.2.2.2.1 v.2.2.2.2.2.2.2.1 v.2.2.2.2.2.2.2.2) .leaf (.two .leaf (.cut ⟨63,[(0,.one (.d (.sl .byte))),(2,.one (.ptr 1000000 0)),(6,.one (.d (.int .i64))),(7,.one (.ptr 1000001 0)),(9,.one (.ptr 1000002 0)),(16,.one (.row 1000000)),(17,.one (.d (.int .i64))),(18,.one (.d (.int .i64))),(36,.one (.d .bool))],[(1000000,[.d A3]),(1000001,[.d A3]),(1000002,[.d A9])],[(1000000,A9,64,false)]⟩ ⟨fun x=>(x.1.1.1,x.1.2.2.1.1,x.1.2.2.2.2.2.2.1.1,x.1.2.2.2.2.2.2.2.1.1,x.1.2.2.2.2.2.2.2.2.1.1,x.2.1.1.1,x.2.1.2.1.1,x.2.1.2.2.1.1,x.2.2.1),fun v=>(((v.1,()),((),((v.2.1,()),((),((),((),((v.2.2.1,()),((v.2.2.2.1,()),((v.2.2.2.2.1,()),()))))))))),((v.2.2.2.2.2.1,()),((v.2.2.2.2.2.2.1,()),((v.2.2.2.2.2.2.2.1,()),()))),(v.2.2.2.2.2.2.2.2,())),fun _=>rfl⟩ (fun v=>J8 v.1 v.2.1 v.2.2.1 v.2.2.2.1 v.2.2.2.2.1 v.2.2.2.2.2.1 v.2.2.2.2.2.2.1 v.2.2.2.2.2.2.2.1 v.2.2.2.2.2.2.2.2) .leaf .leaf)))))) .leaf)))))) .leaf))))
  (⟨trivial,⟨trivial,⟨trivial,⟨⟨trivial,⟨⟨trivial,⟨trivial,⟨⟨trivial,⟨trivial,⟨trivial,⟨trivial,trivial,fun v=>by kernel_rfl⟩⟩,fun v=>by kernel_rfl⟩⟩,trivial⟩⟩⟩,fun v=>by kernel_rfl⟩⟩,trivial,fun v=>by kernel_rfl⟩⟩⟩⟩) (fun a=>by kernel_rfl)
noncomputable def a2H:TFn:=⟨.cons (.c (.d (.sl A9))) .nil,.nil,.cons (.agg (.cons (.d J6) .nil)) (.cons (.c (.d .bool)) .nil),o8 × Bool,fun a=>V0 a.1,fun r=>((),((r.1,()),(r.2,()))),.none⟩
theorem a5p:FnT Tryd.prog 46 a2H:=
 fnT (T:=T) (TU:=TU) (Γ:=[(73,a0X)]) R7 (by rfl) (o9 a3B B2) Tryd.func46 rfl rfl rfl rfl (fun x=>(x.2.1.1,x.2.2.1)) (fun _=>rfl)
  (.two .leaf (.two .leaf (.two (.two .leaf (.one (.loop ⟨104,[(2,.one (.ptr 1000000 0)),(4,.one (.ptr 1000001 0)),(9,.one (.d (.sl A9))),(10,.one (.d (.int .i64))),(11,.one (.d (.int .i64)))],[(1000000,[.d .str,.d (.int .u64),.d (.int .u64),.d (.int .u64),.d .str,.nil]),(1000001,[.d .str,.d (.int .u64),.d (.int .u64),.d (.int .u64),.d .str,.row 1000000])],[(1000000,A3,35,false)]⟩ ⟨fun x=>(x.1.2.2.1.1,x.1.2.2.2.1.1,x.1.2.2.2.2.1.1,x.2.1.1.1,x.2.1.1.2.1,x.2.1.1.2.2.1,x.2.1.1.2.2.2.1,x.2.1.1.2.2.2.2.1,x.2.1.2.1.1,x.2.1.2.1.2.1,x.2.1.2.1.2.2.1,x.2.1.2.1.2.2.2.1,x.2.1.2.1.2.2.2.2.1,x.2.2.1),fun v=>(((),((),((v.1,()),((v.2.1,()),((v.2.2.1,()),()))))),((v.2.2.2.1,(v.2.2.2.2.1,(v.2.2.2.2.2.1,(v.2.2.2.2.2.2.1,(v.2.2.2.2.2.2.2.1,()))))),((v.2.2.2.2.2.2.2.2.1,(v.2.2.2.2.2.2.2.2.2.1,(v.2.2.2.2.2.2.2.2.2.2.1,(v.2.2.2.2.2.2.2.2.2.2.2.1,(v.2.2.2.2.2.2.2.2.2.2.2.2.1,()))))),())),(v.2.2.2.2.2.2.2.2.2.2.2.2.2,())),fun _=>rfl⟩ (fun v=>L0 v.1 v.2.1 v.2.2.1 v.2.2.2.1 v.2.2.2.2.1 v.2.2.2.2.2.1 v.2.2.2.2.2.2.1 v.2.2.2.2.2.2.2.1 v.2.2.2.2.2.2.2.2.1 v.2.2.2.2.2.2.2.2.2.1 v.2.2.2.2.2.2.2.2.2.2.1 v.2.2.2.2.2.2.2.2.2.2.2.1 v.2.2.2.2.2.2.2.2.2.2.2.2.1 v.2.2.2.2.2.2.2.2.2.2.2.2.2) (.two .leaf (.two .leaf (.two (.one (.two .leaf (.one (.cut ⟨104,[(2,.one (.ptr 1000000 0)),(4,.one (.ptr 1000001 0)),(6,.one (.ptr 1000002 0)),(9,.one (.d (.sl A9))),(10,.one (.d (.int .i64))),(11,.one (.d (.int .i64))),(16,.one (.d .bool))],[(1000000,[.d .str,.d (.int .u64),.d (.int .u64),.d (.int .u64),.d .str,.nil]),(1000001,[.d .str,.d (.int .u64),.d (.int .u64),.d (.int .u64),.d .str,.row 1000000]),(1000002,[.d A9])],[(1000000,A3,35,false)]⟩ ⟨fun x=>(x.1.2.2.2.1.1,x.1.2.2.2.2.1.1,x.1.2.2.2.2.2.1.1,x.1.2.2.2.2.2.2.1.1,x.2.1.1.1,x.2.1.1.2.1,x.2.1.1.2.2.1,x.2.1.1.2.2.2.1,x.2.1.1.2.2.2.2.1,x.2.1.2.1.1,x.2.1.2.1.2.1,x.2.1.2.1.2.2.1,x.2.1.2.1.2.2.2.1,x.2.1.2.1.2.2.2.2.1,x.2.1.2.2.1.1,x.2.2.1),fun v=>(((),((),((),((v.1,()),((v.2.1,()),((v.2.2.1,()),((v.2.2.2.1,()),()))))))),((v.2.2.2.2.1,(v.2.2.2.2.2.1,(v.2.2.2.2.2.2.1,(v.2.2.2.2.2.2.2.1,(v.2.2.2.2.2.2.2.2.1,()))))),((v.2.2.2.2.2.2.2.2.2.1,(v.2.2.2.2.2.2.2.2.2.2.1,(v.2.2.2.2.2.2.2.2.2.2.2.1,(v.2.2.2.2.2.2.2.2.2.2.2.2.1,(v.2.2.2.2.2.2.2.2.2.2.2.2.2.1,()))))),((v.2.2.2.2.2.2.2.2.2.2.2.2.2.2.1,()),()))),(v.2.2.2.2.2.2.2.2.2.2.2.2.2.2.2,())),fun _=>rfl⟩ (fun v=>K9 v.1 v.2.1 v.2.2.1 v.2.2.2.1 v.2.2.2.2.1 v.2.2.2.2.2.1 v.2.2.2.2.2.2.1 v.2.2.2.2.2.2.2.1 v.2.2.2.2.2.2.2.2.1 v.2.2.2.2.2.2.2.2.2.1 v.2.2.2.2.2.2.2.2.2.2.1 v.2.2.2.2.2.2.2.2.2.2.2.1 v.2.2.2.2.2.2.2.2.2.2.2.2.1 v.2.2.2.2.2.2.2.2.2.2.2.2.2.1 v.2.2.2.2.2.2.2.2.2.2.2.2.2.2.1 v.2.2.2.2.2.2.2.2.2.2.2.2.2.2.2) .leaf (.two .leaf (.cut ⟨104,[(2,.one (.ptr 1000000 0)),(4,.one (.ptr 1000001 0)),(6,.one (.ptr 1000002 0)),(9,.one (.d (.sl A9))),(10,.one (.d (.int .i64))),(11,.one (.d (.int .i64))),(29,.one (.d .bool))],[(1000000,[.d .str,.d (.int .u64),.d (.int .u64),.d (.int .u64),.d .str,.nil]),(1000001,[.d .str,.d (.int .u64),.d (.int .u64),.d (.int .u64),.d .str,.row 1000000]),(1000002,[.d A9])],[(1000000,A3,35,false)]⟩ ⟨fun x=>(x.1.2.2.2.1.1,x.1.2.2.2.2.1.1,x.1.2.2.2.2.2.1.1,x.1.2.2.2.2.2.2.1.1,x.2.1.1.1,x.2.1.1.2.1,x.2.1.1.2.2.1,x.2.1.1.2.2.2.1,x.2.1.1.2.2.2.2.1,x.2.1.2.1.1,x.2.1.2.1.2.1,x.2.1.2.1.2.2.1,x.2.1.2.1.2.2.2.1,x.2.1.2.1.2.2.2.2.1,x.2.1.2.2.1.1,x.2.2.1),fun v=>(((),((),((),((v.1,()),((v.2.1,()),((v.2.2.1,()),((v.2.2.2.1,()),()))))))),((v.2.2.2.2.1,(v.2.2.2.2.2.1,(v.2.2.2.2.2.2.1,(v.2.2.2.2.2.2.2.1,(v.2.2.2.2.2.2.2.2.1,()))))),((v.2.2.2.2.2.2.2.2.2.1,(v.2.2.2.2.2.2.2.2.2.2.1,(v.2.2.2.2.2.2.2.2.2.2.2.1,(v.2.2.2.2.2.2.2.2.2.2.2.2.1,(v.2.2.2.2.2.2.2.2.2.2.2.2.2.1,()))))),((v.2.2.2.2.2.2.2.2.2.2.2.2.2.2.1,()),()))),(v.2.2.2.2.2.2.2.2.2.2.2.2.2.2.2,())),fun _=>rfl⟩ (fun v=>K8 v.1 v.2.1 v.2.2.1 v.2.2.2.1 v.2.2.2.2.1 v.2.2.2.2.2.1 v.2.2.2.2.2.2.1 v.2.2.2.2.2.2.2.1 v.2.2.2.2.2.2.2.2.1 v.2.2.2.2.2.2.2.2.2.1 v.2.2.2.2.2.2.2.2.2.2.1 v.2.2.2.2.2.2.2.2.2.2.2.1 v.2.2.2.2.2.2.2.2.2.2.2.2.1 v.2.2.2.2.2.2.2.2.2.2.2.2.2.1 v.2.2.2.2.2.2.2.2.2.2.2.2.2.2.1 v.2.2.2.2.2.2.2.2.2.2.2.2.2.2.2) .leaf (.two .leaf (.cut ⟨104,[(2,.one (.ptr 1000000 0)),(4,.one (.ptr 1000001 0)),(6,.one (.ptr 1000002 0)),(9,.one (.d (.sl A9))),(10,.one (.d (.int .i64))),(11,.one (.d (.int .i64))),(41,.one (.d .bool))],[(1000000,[.d .str,.d (.int .u64),.d (.int .u64),.d (.int .u64),.d .str,.nil]),(1000001,[.d .str,.d (.int .u64),.d (.int .u64),.d (.int .u64),.d .str,.row 1000000]),(1000002,[.d A9])],[(1000000,A3,35,false)]⟩ ⟨fun x=>(x.1.2.2.2.1.1,x.1.2.2.2.2.1.1,x.1.2.2.2.2.2.1.1,x.1.2.2.2.2.2.2.1.1,x.2.1.1.1,x.2.1.1.2.1,x.2.1.1.2.2.1,x.2.1.1.2.2.2.1,x.2.1.1.2.2.2.2.1,x.2.1.2.1.1,x.2.1.2.1.2.1,x.2.1.2.1.2.2.1,x.2.1.2.1.2.2.2.1,x.2.1.2.1.2.2.2.2.1,x.2.1.2.2.1.1,x.2.2.1),fun v=>(((),((),((),((v.1,()),((v.2.1,()),((v.2.2.1,()),((v.2.2.2.1,()),()))))))),((v.2.2.2.2.1,(v.2.2.2.2.2.1,(v.2.2.2.2.2.2.1,(v.2.2.2.2.2.2.2.1,(v.2.2.2.2.2.2.2.2.1,()))))),((v.2.2.2.2.2.2.2.2.2.1,(v.2.2.2.2.2.2.2.2.2.2.1,(v.2.2.2.2.2.2.2.2.2.2.2.1,(v.2.2.2.2.2.2.2.2.2.2.2.2.1,(v.2.2.2.2.2.2.2.2.2.2.2.2.2.1,()))))),((v.2.2.2.2.2.2.2.2.2.2.2.2.2.2.1,()),()))),(v.2.2.2.2.2.2.2.2.2.2.2.2.2.2.2,())),fun _=>rfl⟩ (fun v=>K7 v.1 v.2.1 v.2.2.1 v.2.2.2.1 v.2.2.2.2.1 v.2.2.2.2.2.1 v.2.2.2.2.2.2.1 v.2.2.2.2.2.2.2.1 v.2.2.2.2.2.2.2.2.1 v.2.2.2.2.2.2.2.2.2.1 v.2.2.2.2.2.2.2.2.2.2.1 v.2.2.2.2.2.2.2.2.2.2.2.1 v.2.2.2.2.2.2.2.2.2.2.2.2.1 v.2.2.2.2.2.2.2.2.2.2.2.2.2.1 v.2.2.2.2.2.2.2.2.2.2.2.2.2.2.1 v.2.2.2.2.2.2.2.2.2.2.2.2.2.2.2) .leaf (.two .leaf (.cut ⟨104,[(2,.one (.ptr 1000000 0)),(4,.one (.ptr 1000001 0)),(6,.one (.ptr 1000002 0)),(9,.one (.d (.sl A9))),(10,.one (.d (.int .i64))),(11,.one (.d (.int .i64))),(53,.one (.d .bool))],[(1000000,[.d .str,.d (.int .u64),.d (.int .u64),.d (.int .u64),.d .str,.nil]),(1000001,[.d .str,.d (.int .u64),.d (.int .u64),.d (.int .u64),.d .str,.row 1000000]),(1000002,[.d A9])],[(1000000,A3,35,false)]⟩ ⟨fun x=>(x.1.2.2.2.1.1,x.1.2.2.2.2.1.1,x.1.2.2.2.2.2.1.1,x.1.2.2.2.2.2.2.1.1,x.2.1.1.1,x.2.1.1.2.1,x.2.1.1.2.2.1,x.2.1.1.2.2.2.1,x.2.1.1.2.2.2.2.1,x.2.1.2.1.1,x.2.1.2.1.2.1,x.2.1.2.1.2.2.1,x.2.1.2.1.2.2.2.1,x.2.1.2.1.2.2.2.2.1,x.2.1.2.2.1.1,x.2.2.1),fun v=>(((),((),((),((v.1,()),((v.2.1,()),((v.2.2.1,()),((v.2.2.2.1,()),()))))))),((v.2.2.2.2.1,(v.2.2.2.2.2.1,(v.2.2.2.2.2.2.1,(v.2.2.2.2.2.2.2.1,(v.2.2.2.2.2.2.2.2.1,()))))),((v.2.2.2.2.2.2.2.2.2.1,(v.2.2.2.2.2.2.2.2.2.2.1,(v.2.2.2.2.2.2.2.2.2.2.2.1,(v.2.2.2.2.2.2.2.2.2.2.2.2.1,(v.2.2.2.2.2.2.2.2.2.2.2.2.2.1,()))))),((v.2.2.2.2.2.2.2.2.2.2.2.2.2.2.1,()),()))),(v.2.2.2.2.2.2.2.2.2.2.2.2.2.2.2,())),fun _=>rfl⟩ (fun v=>K6 v.1 v.2.1 v.2.2.1 v.2.2.2.1 v.2.2.2.2.1 v.2.2.2.2.2.1 v.2.2.2.2.2.2.1 v.2.2.2.2.2.2.2.1 v.2.2.2.2.2.2.2.2.1 v.2.2.2.2.2.2.2.2.2.1 v.2.2.2.2.2.2.2.2.2.2.1 v.2.2.2.2.2.2.2.2.2.2.2.1 v.2.2.2.2.2.2.2.2.2.2.2.2.1 v.2.2.2.2.2.2.2.2.2.2.2.2.2.1 v.2.2.2.2.2.2.2.2.2.2.2.2.2.2.1 v.2.2.2.2.2.2.2.2.2.2.2.2.2.2.2) .leaf (.two .leaf (.cut ⟨104,[(2,.one (.ptr 1000000 0)),(4,.one (.ptr 1000001 0)),(6,.one (.ptr 1000002 0)),(9,.one (.d (.sl A9))),(10,.one (.d (.int .i64))),(11,.one (.d (.int .i64))),(65,.one (.d .bool))],[(1000000,[.d .str,.d (.int .u64),.d (.int .u64),.d (.int .u64),.d .str,.nil]),(1000001,[.d .str,.d (.int .u64),.d (.int .u64),.d (.int .u64),.d .str,.row 1000000]),(1000002,[.d A9])],[(1000000,A3,35,false)]⟩ ⟨fun x=>(x.1.2.2.2.1.1,x.1.2.2.2.2.1.1,x.1.2.2.2.2.2.1.1,x.1.2.2.2.2.2.2.1.1,x.2.1.1.1,x.2.1.1.2.1,x.2.1.1.2.2.1,x.2.1.1.2.2.2.1,x.2.1.1.2.2.2.2.1,x.2.1.2.1.1,x.2.1.2.1.2.1,x.2.1.2.1.2.2.1,x.2.1.2.1.2.2.2.1,x.2.1.2.1.2.2.2.2.1,x.2.1.2.2.1.1,x.2.2.1),fun v=>(((),((),((),((v.1,()),((v.2.1,()),((v.2.2.1,()),((v.2.2.2.1,()),()))))))),((v.2.2.2.2.1,(v.2.2.2.2.2.1,(v.2.2.2.2.2.2.1,(v.2.2.2.2.2.2.2.1,(v.2.2.2.2.2.2.2.2.1,()))))),((v.2.2.2.2.2.2.2.2.2.1,(v.2.2.2.2.2.2.2.2.2.2.1,(v.2.2.2.2.2.2.2.2.2.2.2.1,(v.2.2.2.2.2.2.2.2.2.2.2.2.1,(v.2.2.2.2.2.2.2.2.2.2.2.2.2.1,()))))),((v.2.2.2.2.2.2.2.2.2.2.2.2.2.2.1,()),()))),(v.2.2.2.2.2.2.2.2.2.2.2.2.2.2.2,())),fun _=>rfl⟩ (fun v=>K5 v.1 v.2.1 v.2.2.1 v.2.2.2.1 v.2.2.2.2.1 v.2.2.2.2.2.1 v.2.2.2.2.2.2.1 v.2.2.2.2.2.2.2.1 v.2.2.2.2.2.2.2.2.1 v.2.2.2.2.2.2.2.2.2.1 v.2.2.2.2.2.2.2.2.2.2.1 v.2.2.2.2.2.2.2.2.2.2.2.1 v.2.2.2.2.2.2.2.2.2.2.2.2.1 v.2.2.2.2.2.2.2.2.2.2.2.2.2.1 v.2.2.2.2.2.2.2.2.2.2.2.2.2.2.1 v.2.2.2.2.2.2.2.2.2.2.2.2.2.2.2) .leaf (.two .leaf (.cut ⟨104,[(2,.one (.ptr 1000000 0)),(4,.one (.ptr 1000001 0)),(6,.one (.ptr 1000002 0)),(9,.one (.d (.sl A9))),(10,.one (.d (.int .i64))),(11,.one (.d (.int .i64))),(78,.one (.d .bool))],[(1000000,[.d .str,.d (.int .u64),.d (.int .u64),.d (.int .u64),.d .str,.nil]),(1000001,[.d .str,.d (.int .u64),.d (.int .u64),.d (.int .u64),.d .str,.row 1000000]),(1000002,[.d A9])],[(1000000,A3,35,false)]⟩ ⟨fun x=>(x.1.2.2.2.1.1,x.1.2.2.2.2.1.1,x.1.2.2.2.2.2.1.1,x.1.2.2.2.2.2.2.1.1,x.2.1.1.1,x.2.1.1.2.1,x.2.1.1.2.2.1,x.2.1.1.2.2.2.1,x.2.1.1.2.2.2.2.1,x.2.1.2.1.1,x.2.1.2.1.2.1,x.2.1.2.1.2.2.1,x.2.1.2.1.2.2.2.1,x.2.1.2.1.2.2.2.2.1,x.2.1.2.2.1.1,x.2.2.1),fun v=>(((),((),((),((v.1,()),((v.2.1,()),((v.2.2.1,()),((v.2.2.2.1,()),()))))))),((v.2.2.2.2.1,(v.2.2.2.2.2.1,(v.2.2.2.2.2.2.1,(v.2.2.2.2.2.2.2.1,(v.2.2.2.2.2.2.2.2.1,()))))),((v.2.2.2.2.2.2.2.2.2.1,(v.2.2.2.2.2.2.2.2.2.2.1,(v.2.2.2.2.2.2.2.2.2.2.2.1,(v.2.2.2.2.2.2.2.2.2.2.2.2.1,(v.2.2.2.2.2.2.2.2.2.2.2.2.2.1,()))))),((v.2.2.2.2.2.2.2.2.2.2.2.2.2.2.1,()),()))),(v.2.2.2.2.2.2.2.2.2.2.2.2.2.2.2,())),fun _=>rfl⟩ (fun v=>K4 v.1 v.2.1 v.2.2.1 v.2.2.2.1 v.2.2.2.2.1 v.2.2.2.2.2.1 v.2.2.2.2.2.2.1 v.2.2.2.2.2.2.2.1 v.2.2.2.2.2.2.2.2.1 v.2.2.2.2.2.2.2.2.2.1 v.2.2.2.2.2.2.2.2.2.2.1 v.2.2.2.2.2.2.2.2.2.2.2.1 v.2.2.2.2.2.2.2.2.2.2.2.2.1 v.2.2.2.2.2.2.2.2.2.2.2.2.2.1 v.2.2.2.2.2.2.2.2.2.2.2.2.2.2.1 v.2.2.2.2.2.2.2.2.2.2.2.2.2.2.2) .leaf .leaf)))))))))))))) .leaf)))))) .leaf)))
  (⟨trivial,⟨trivial,⟨⟨trivial,⟨⟨trivial,⟨trivial,⟨⟨trivial,⟨trivial,⟨trivial,⟨trivial,⟨trivial,⟨trivial,⟨trivial,⟨trivial,⟨trivial,⟨trivial,⟨trivial,⟨trivial,trivial,fun v=>by kernel_rfl⟩⟩,fun v=>by kernel_rfl⟩⟩,fun v=>by kernel_rfl⟩⟩,fun v=>by kernel_rfl⟩⟩,fun v=>by kernel_rfl⟩⟩,fun v=>by kernel_rfl⟩⟩,trivial⟩⟩⟩,fun v=>by kernel_rfl⟩⟩,trivial⟩⟩⟩) (fun a=>by kernel_rfl)
noncomputable def a0Y:TFn:=⟨.cons (.c (.d (.sl .byte))) .nil,.nil,.cons (.agg (.cons (.d J6) .nil)) (.cons (.c (.d (.int .i64))) .nil),o8 × Int,fun a=>J2 a.1,fun r=>((),((r.1,()),(r.2,()))),.none⟩
theorem a3C:FnT Tryd.prog 19 a0Y:=
 fnT (T:=T) (TU:=TU) (Γ:=[(45,a0g),(46,a2H),(11,a0z),(47,V6),(10,R9)]) R7 (by rfl) (o9 a1C (o9 a5p (o9 a1W (o9 a0K (o9 a0a B2))))) Tryd.func19 rfl rfl rfl rfl (fun x=>(x.2.1.1,x.2.2.1)) (fun _=>rfl)
  (.leaf)
  (trivial) (fun a=>by kernel_rfl)
noncomputable def V7:TFn:=⟨.cons (.c (.d (.sl A1))) (.cons (.c (.d .str)) .nil),.nil,.cons (.c (.d (.int .i64))) .nil,Int,fun a=>L4 a.1 a.2.1,fun r=>((),(r,())),.none⟩
theorem a0h:FnT Tryd.prog 54 V7:=
 fnT (T:=T) (TU:=TU) (Γ:=[]) R7 (by rfl) (B2) Tryd.func54 rfl rfl rfl rfl (fun x=>x.2.1) (fun _=>rfl)
  (.two .leaf (.two (.two .leaf (.one (.loop ⟨20,[(1,.one (.d .str)),(7,.one (.d (.sl A1))),(8,.one (.d (.int .i64))),(9,.one (.d (.int .i64)))],[],[]⟩ ⟨fun x=>(x.1.1.1,x.1.2.1.1,x.1.2.2.1.1,x.1.2.2.2.1.1),fun v=>(((v.1,()),((v.2.1,()),((v.2.2.1,()),((v.2.2.2,()),())))),(),()),fun _=>rfl⟩ (fun v=>P3 v.1 v.2.1 v.2.2.1 v.2.2.2) .leaf))) .leaf))
  (⟨trivial,⟨⟨trivial,⟨trivial,fun v=>by kernel_rfl⟩⟩,trivial⟩⟩) (fun a=>by kernel_rfl)
noncomputable def a0Z:TFn:=⟨.cons (.agg (.cons (.d B3) .nil)) (.cons (.c (.d .str)) .nil),.nil,.cons (.agg (.cons (.d A1) .nil)) (.cons (.c (.d .bool)) .nil),o3 × Bool,fun a=>Q8 a.1.1 a.2.1,fun r=>((),((r.1,()),(r.2,()))),.none⟩
theorem a2I:FnT Tryd.prog 48 a0Z:=
 fnT (T:=T) (TU:=TU) (Γ:=[(54,V7)]) R7 (by rfl) (o9 a0h B2) Tryd.func48 rfl rfl rfl rfl (fun x=>(x.2.1.1,x.2.2.1)) (fun _=>rfl)
  (.leaf)
  (trivial) (fun a=>by kernel_rfl)
noncomputable def a09:TFn:=⟨.cons (.c (.d (.int .i64))) .nil,.nil,.cons (.c (.d (.int .u64))) .nil,Int,fun a=>L1 a.1,fun r=>((),(r,())),.none⟩
theorem a35:FnT Tryd.prog 74 a09:=
 fnT (T:=T) (TU:=TU) (Γ:=[]) R7 (by rfl) (B2) Tryd.func74 rfl rfl rfl rfl (fun x=>x.2.1) (fun _=>rfl)
  (.leaf)
  (trivial) (fun a=>by kernel_rfl)
noncomputable def a2J:TFn:=⟨.cons (.c (.d (.int .i64))) (.cons (.c (.d (.int .i64))) .nil),.nil,.cons (.c (.d (.int .u64))) .nil,Int,fun a=>V1 a.1 a.2.1,fun r=>((),(r,())),.none⟩
theorem a5q:FnT Tryd.prog 49 a2J:=
 fnT (T:=T) (TU:=TU) (Γ:=[(74,a09)]) R7 (by rfl) (o9 a35 B2) Tryd.func49 rfl rfl rfl rfl (fun x=>x.2.1) (fun _=>rfl)
  (.leaf)
  (trivial) (fun a=>by kernel_rfl)
noncomputable def a3D:TFn:=⟨.cons (.c (.d (.int .u64))) (.cons (.c (.d (.int .u64))) .nil),.nil,.cons (.c (.d (.int .u64))) (.cons (.c (.d .bool)) .nil),Int × Bool,fun a=>Z5 a.1 a.2.1,fun r=>((),(r.1,(r.2,()))),.none⟩
theorem a60:FnT Tryd.prog 75 a3D:=
 fnT (T:=T) (TU:=TU) (Γ:=[]) R7 (by rfl) (B2) Tryd.func75 rfl rfl rfl rfl (fun x=>(x.2.1,x.2.2.1)) (fun _=>rfl)
  (.leaf)
  (trivial) (fun a=>by kernel_rfl)
noncomputable def a2K:TFn:=⟨.cons (.c (.d (.int .u64))) (.cons (.c (.d (.int .u64))) .nil),.nil,.cons (.c (.d (.int .u64))) (.cons (.c (.d .bool)) .nil),Int × Bool,fun a=>V2 a.1 a.2.1,fun r=>((),(r.1,(r.2,()))),.none⟩
theorem a5r:FnT Tryd.prog 50 a2K:=
 fnT (T:=T) (TU:=TU) (Γ:=[(75,a3D)]) R7 (by rfl) (o9 a60 B2) Tryd.func50 rfl rfl rfl rfl (fun x=>(x.2.1,x.2.2.1)) (fun _=>rfl)
  (.leaf)
  (trivial) (fun a=>by kernel_rfl)
noncomputable def a3E:TFn:=⟨.cons (.c (.d (.sl (.int .u64)))) .nil,.nil,.cons (.c (.d (.int .u64))) (.cons (.c (.d .bool)) .nil),Int × Bool,fun a=>Z6 a.1,fun r=>((),(r.1,(r.2,()))),.none⟩
theorem a61:FnT Tryd.prog 52 a3E:=
 fnT (T:=T) (TU:=TU) (Γ:=[(71,a1k)]) R7 (by rfl) (o9 a22 B2) Tryd.func52 rfl rfl rfl rfl (fun x=>(x.2.1,x.2.2.1)) (fun _=>rfl)
  (.two .leaf (.two .leaf (.two (.two .leaf (.one (.loop ⟨26,[(4,.one (.d (.int .u64))),(9,.one (.d (.sl (.int .u64)))),(10,.one (.d (.int .i64))),(11,.one (.d (.int .i64)))],[],[]⟩ ⟨fun x=>(x.1.1.1,x.1.2.1.1,x.1.2.2.1.1,x.1.2.2.2.1.1),fun v=>(((v.1,()),((v.2.1,()),((v.2.2.1,()),((v.2.2.2,()),())))),(),()),fun _=>rfl⟩ (fun v=>S7 v.1 v.2.1 v.2.2.1 v.2.2.2) .leaf))) .leaf)))
  (⟨trivial,⟨trivial,⟨⟨trivial,⟨trivial,fun v=>by kernel_rfl⟩⟩,trivial⟩⟩⟩) (fun a=>by kernel_rfl)
noncomputable def a0A:TFn:=⟨.cons (.agg (.cons (.d J6) .nil)) .nil,.nil,.cons (.c (.d (.int .u64))) (.cons (.c (.d .bool)) .nil),Int × Bool,fun a=>P0 a.1.1,fun r=>((),(r.1,(r.2,()))),.none⟩
theorem a1Z:FnT Tryd.prog 22 a0A:=
 fnT (T:=T) (TU:=TU) (Γ:=[(52,a3E)]) R7 (by rfl) (o9 a61 B2) Tryd.func22 rfl rfl rfl rfl (fun x=>(x.2.1,x.2.2.1)) (fun _=>rfl)
  (.two .leaf (.two .leaf (.cut ⟨27,[(4,.one (.row 1000000))],[],[(1000000,(.int .u64),22,false)]⟩ ⟨fun x=>x.2.2.1,fun v=>(((),()),(),(v,())),fun _=>rfl⟩ (fun v=>W9 v) (.two .leaf (.one (.loop ⟨27,[(4,.one (.row 1000000)),(11,.one (.d (.sl A3))),(12,.one (.d (.int .i64))),(13,.one (.d (.int .i64)))],[],[(1000000,(.int .u64),22,false)]⟩ ⟨fun x=>(x.1.2.1.1,x.1.2.2.1.1,x.1.2.2.2.1.1,x.2.2.1),fun v=>(((),((v.1,()),((v.2.1,()),((v.2.2.1,()),())))),(),(v.2.2.2,())),fun _=>rfl⟩ (fun v=>P4 v.1 v.2.1 v.2.2.1 v.2.2.2) .leaf))) .leaf)))
  (⟨trivial,⟨trivial,⟨⟨trivial,⟨trivial,fun v=>by kernel_rfl⟩⟩,trivial,fun v=>by kernel_rfl⟩⟩⟩) (fun a=>by kernel_rfl)
noncomputable def a24:TFn:=⟨.cons (.c (.d (.sl A1))) (.cons (.agg (.cons (.d A1) .nil)) .nil),.nil,.cons (.c (.row A1 24)) .nil,List o3,fun a=>R1 a.1 a.2.1.1,fun r=>((),(r,())),.none⟩
theorem a6c:FnT Tryd.prog 53 a24:=
 fnT (T:=T) (TU:=TU) (Γ:=[(54,V7)]) R7 (by rfl) (o9 a0h B2) Tryd.func53 rfl rfl rfl rfl (fun x=>x.2.1) (fun _=>rfl)
  (.two .leaf (.two .leaf (.two .leaf (.cut ⟨50,[(0,.one (.d (.sl A1))),(3,.one (.ptr 1000000 0)),(7,.one (.d (.int .i64)))],[(1000000,[.d A1])],[]⟩ ⟨fun x=>(x.1.1.1,x.1.2.2.1.1,x.2.1.1.1),fun v=>(((v.1,()),((),((v.2.1,()),()))),((v.2.2,()),()),()),fun _=>rfl⟩ (fun v=>L7 v.1 v.2.1 v.2.2) (.one (.loop ⟨50,[(0,.one (.d (.sl A1))),(3,.one (.ptr 1000000 0)),(7,.one (.d (.int .i64)))],[(1000000,[.d A1])],[]⟩ ⟨fun x=>(x.1.1.1,x.1.2.2.1.1,x.2.1.1.1),fun v=>(((v.1,()),((),((v.2.1,()),()))),((v.2.2,()),()),()),fun _=>rfl⟩ (fun v=>Q9 v.1 v.2.1 v.2.2) .leaf)) .leaf))))
  (⟨trivial,⟨trivial,⟨trivial,⟨⟨trivial,fun v=>by kernel_rfl⟩,trivial,fun v=>by kernel_rfl⟩⟩⟩⟩) (fun a=>by kernel_rfl)
noncomputable def a0B:TFn:=⟨.cons (.agg (.cons (.d B3) .nil)) (.cons (.agg (.cons (.d J6) .nil)) (.cons (.c (.d (.int .u64))) .nil)),.nil,.cons (.agg (.cons (.d B3) .nil)) .nil,o7,fun a=>P1 a.1.1 a.2.1.1 a.2.2.1,fun r=>((),((r,()),())),.none⟩
theorem a10:FnT Tryd.prog 23 a0B:=
 fnT (T:=T) (TU:=TU) (Γ:=[(48,a0Z),(53,a24),(54,V7)]) R7 (by rfl) (o9 a2I (o9 a6c (o9 a0h B2))) Tryd.func23 rfl rfl rfl rfl (fun x=>x.2.1.1) (fun _=>rfl)
  (.two .leaf (.two .leaf (.two .leaf (.two .leaf (.two .leaf (.cut ⟨71,[(3,.one (.ptr 1000000 0)),(4,.one (.ptr 1000001 0)),(6,.one (.ptr 1000002 0)),(9,.one (.row 1000000))],[(1000000,[.d B3]),(1000001,[.d J6]),(1000002,[.d B3])],[(1000000,A1,24,false)]⟩ ⟨fun x=>(x.2.1.1.1,x.2.1.2.1.1,x.2.1.2.2.1.1,x.2.2.1),fun v=>(((),((),((),((),())))),((v.1,()),((v.2.1,()),((v.2.2.1,()),()))),(v.2.2.2,())),fun _=>rfl⟩ (fun v=>X0 v.1 v.2.1 v.2.2.1 v.2.2.2) (.two .leaf (.one (.loop ⟨71,[(3,.one (.ptr 1000000 0)),(4,.one (.ptr 1000001 0)),(6,.one (.ptr 1000002 0)),(9,.one (.row 1000000)),(35,.one (.d (.sl A3))),(36,.one (.d (.int .i64))),(37,.one (.d (.int .i64)))],[(1000000,[.d B3]),(1000001,[.d J6]),(1000002,[.d B3])],[(1000000,A1,24,false)]⟩ ⟨fun x=>(x.1.2.2.2.2.1.1,x.1.2.2.2.2.2.1.1,x.1.2.2.2.2.2.2.1.1,x.2.1.1.1,x.2.1.2.1.1,x.2.1.2.2.1.1,x.2.2.1),fun v=>(((),((),((),((),((v.1,()),((v.2.1,()),((v.2.2.1,()),()))))))),((v.2.2.2.1,()),((v.2.2.2.2.1,()),((v.2.2.2.2.2.1,()),()))),(v.2.2.2.2.2.2,())),fun _=>rfl⟩ (fun v=>P5 v.1 v.2.1 v.2.2.1 v.2.2.2.1 v.2.2.2.2.1 v.2.2.2.2.2.1 v.2.2.2.2.2.2) (.two .leaf (.two .leaf (.two (.one (.two .leaf (.two .leaf (.cut ⟨71,[(3,.one (.ptr 1000000 0)),(4,.one (.ptr 1000001 0)),(6,.one (.ptr 1000002 0)),(9,.one (.row 1000000)),(11,.one (.ptr 1000003 0)),(12,.one (.ptr 1000004 0)),(35,.one (.d (.sl A3))),(36,.one (.d (.int .i64))),(37,.one (.d (.int .i64)))],[(1000000,[.d B3]),(1000001,[.d J6]),(1000002,[.d B3]),(1000003,[.d A3]),(1000004,[.d A1])],[(1000000,A1,24,false)]⟩ ⟨fun x=>(x.1.2.2.2.2.2.2.1.1,x.1.2.2.2.2.2.2.2.1.1,x.1.2.2.2.2.2.2.2.2.1.1,x.2.1.1.1,x.2.1.2.1.1,x.2.1.2.2.1.1,x.2.1.2.2.2.1.1,x.2.1.2.2.2.2.1.1,x.2.2.1),fun v=>(((),((),((),((),((),((),((v.1,()),((v.2.1,()),((v.2.2.1,()),()))))))))),((v.2.2.2.1,()),((v.2.2.2.2.1,()),((v.2.2.2.2.2.1,()),((v.2.2.2.2.2.2.1,()),((v.2.2.2.2.2.2.2.1,()),()))))),(v.2.2.2.2.2.2.2.2,())),fun _=>rfl⟩ (fun v=>L2 v.1 v.2.1 v.2.2.1 v.2.2.2.1 v.2.2.2.2.1 v.2.2.2.2.2.1 v.2.2.2.2.2.2.1 v.2.2.2.2.2.2.2.1 v.2.2.2.2.2.2.2.2) .leaf .leaf)))) .leaf)))))) .leaf))))))
  (⟨trivial,⟨trivial,⟨trivial,⟨trivial,⟨trivial,⟨⟨trivial,⟨⟨trivial,⟨trivial,⟨⟨trivial,⟨trivial,⟨trivial,trivial,fun v=>by kernel_rfl⟩⟩⟩,trivial⟩⟩⟩,fun v=>by kernel_rfl⟩⟩,trivial,fun v=>by kernel_rfl⟩⟩⟩⟩⟩⟩) (fun a=>by kernel_rfl)
noncomputable def a11:TFn:=⟨.cons (.agg (.cons (.d B3) .nil)) (.cons (.c (.d (.int .u64))) (.cons (.agg (.cons (.d J6) .nil)) (.cons (.c (.d (.int .i64))) .nil))),.nil,.cons (.c (.d (.int .i64))) .nil,Int,fun a=>S8 a.1.1 a.2.1 a.2.2.1.1 a.2.2.2.1,fun r=>((),(r,())),.none⟩
theorem a4P:FnT Tryd.prog 20 a11:=
 fnT (T:=T) (TU:=TU) (Γ:=[(48,a0Z),(49,a2J),(50,a2K),(22,a0A),(23,a0B)]) R7 (by rfl) (o9 a2I (o9 a5q (o9 a5r (o9 a1Z (o9 a10 B2))))) Tryd.func20 rfl rfl rfl rfl (fun x=>x.2.1) (fun _=>rfl)
  (.leaf)
  (trivial) (fun a=>by kernel_rfl)
noncomputable def a1D:TFn:=⟨.cons (.c (.d (.int .u64))) (.cons (.c (.d (.int .u64))) .nil),.nil,.cons (.c (.d (.int .u64))) (.cons (.c (.d (.int .u64))) .nil),Int × Int,fun a=>R3 a.1 a.2.1,fun r=>((),(r.1,(r.2,()))),.none⟩
theorem a4o:FnT Tryd.prog 76 a1D:=
 fnT (T:=T) (TU:=TU) (Γ:=[]) R7 (by rfl) (B2) Tryd.func76 rfl rfl rfl rfl (fun x=>(x.2.1,x.2.2.1)) (fun _=>rfl)
  (.leaf)
  (trivial) (fun a=>by kernel_rfl)
noncomputable def a12:TFn:=⟨.cons (.c (.d (.int .u64))) (.cons (.c (.d (.int .u64))) (.cons (.c (.d (.int .u64))) .nil)),.nil,.cons (.c (.d (.int .u64))) (.cons (.c (.d .bool)) .nil),Int × Bool,fun a=>S9 a.1 a.2.1 a.2.2.1,fun r=>((),(r.1,(r.2,()))),.none⟩
theorem a4Q:FnT Tryd.prog 51 a12:=
 fnT (T:=T) (TU:=TU) (Γ:=[(76,a1D)]) R7 (by rfl) (o9 a4o B2) Tryd.func51 rfl rfl rfl rfl (fun x=>(x.2.1,x.2.2.1)) (fun _=>rfl)
  (.two .leaf (.two .leaf (.two .leaf (.two .leaf (.two (.two .leaf (.one (.loop ⟨54,[(2,.one (.d (.int .u64))),(8,.one (.d (.int .u64))),(9,.one (.d (.int .u64))),(10,.one (.d (.int .u64))),(11,.one (.d (.int .i64)))],[],[]⟩ ⟨fun x=>(x.1.1.1,x.1.2.1.1,x.1.2.2.1.1,x.1.2.2.2.1.1,x.1.2.2.2.2.1.1),fun v=>(((v.1,()),((v.2.1,()),((v.2.2.1,()),((v.2.2.2.1,()),((v.2.2.2.2,()),()))))),(),()),fun _=>rfl⟩ (fun v=>V4 v.1 v.2.1 v.2.2.1 v.2.2.2.1 v.2.2.2.2) (.two .leaf (.two (.one (.two .leaf (.two .leaf (.two .leaf (.cut ⟨54,[(2,.one (.d (.int .u64))),(8,.one (.d (.int .u64))),(9,.one (.d (.int .u64))),(10,.one (.d (.int .u64))),(11,.one (.d (.int .i64))),(47,.one (.d .bool))],[],[]⟩ ⟨fun x=>(x.1.1.1,x.1.2.1.1,x.1.2.2.1.1,x.1.2.2.2.1.1,x.1.2.2.2.2.1.1,x.1.2.2.2.2.2.1.1),fun v=>(((v.1,()),((v.2.1,()),((v.2.2.1,()),((v.2.2.2.1,()),((v.2.2.2.2.1,()),((v.2.2.2.2.2,()),())))))),(),()),fun _=>rfl⟩ (fun v=>G9 v.1 v.2.1 v.2.2.1 v.2.2.2.1 v.2.2.2.2.1 v.2.2.2.2.2) .leaf .leaf))))) .leaf))))) .leaf)))))
  (⟨trivial,⟨trivial,⟨trivial,⟨trivial,⟨⟨trivial,⟨⟨trivial,⟨⟨trivial,⟨trivial,⟨trivial,⟨trivial,trivial,fun v=>by kernel_rfl⟩⟩⟩⟩,trivial⟩⟩,fun v=>by kernel_rfl⟩⟩,trivial⟩⟩⟩⟩⟩) (fun a=>by kernel_rfl)
noncomputable def a01:TFn:=⟨.cons (.c (.d (.int .u64))) (.cons (.c (.d (.int .u64))) .nil),.nil,.cons (.c (.d (.int .u64))) .nil,Int,fun a=>J3 a.1 a.2.1,fun r=>((),(r,())),.none⟩
theorem a3F:FnT Tryd.prog 21 a01:=
 fnT (T:=T) (TU:=TU) (Γ:=[(51,a12)]) R7 (by rfl) (o9 a4Q B2) Tryd.func21 rfl rfl rfl rfl (fun x=>x.2.1) (fun _=>rfl)
  (.leaf)
  (trivial) (fun a=>by kernel_rfl)
noncomputable def a3G:TFn:=⟨.cons (.agg (.cons (.d B3) .nil)) (.cons (.c (.d (.int .u64))) (.cons (.c (.d (.sl .byte))) .nil)),.nil,.cons (.agg (.cons (.d B3) .nil)) (.cons (.agg (.cons (.d a1u) .nil)) .nil),o7 × U0,fun a=>Z7 a.1.1 a.2.1 a.2.2.1,fun r=>((),((r.1,()),((r.2,()),()))),.none⟩
theorem a62:FnT Tryd.prog 7 a3G:=
 fnT (T:=T) (TU:=TU) (Γ:=[(18,W4),(19,a0Y),(20,a11),(21,a01),(22,a0A),(23,a0B)]) R7 (by rfl) (o9 a1B (o9 a3C (o9 a4P (o9 a3F (o9 a1Z (o9 a10 B2)))))) Tryd.func7 rfl rfl rfl rfl (fun x=>(x.2.1.1,x.2.2.1.1)) (fun _=>rfl)
  (.leaf)
  (trivial) (fun a=>by kernel_rfl)
noncomputable def S0:TFn:=⟨.cons (.agg (.cons (.d B3) .nil)) (.cons (.agg (.cons (.d B3) .nil)) .nil),.nil,.cons (.c (.d .bool)) .nil,Bool,fun a=>H5 a.1.1 a.2.1.1,fun r=>((),(r,())),.none⟩
theorem a0c:FnT Tryd.prog 8 S0:=
 fnT (T:=T) (TU:=TU) (Γ:=[]) R7 (by rfl) (B2) Tryd.func8 rfl rfl rfl rfl (fun x=>x.2.1) (fun _=>rfl)
  (.two .leaf (.two .leaf (.two (.two .leaf (.one (.loop ⟨38,[(2,.one (.ptr 1000000 0)),(3,.one (.ptr 1000001 0)),(22,.one (.d (.int .i64))),(23,.one (.d (.int .i64)))],[(1000000,[.d B3]),(1000001,[.d B3])],[]⟩ ⟨fun x=>(x.1.2.2.1.1,x.1.2.2.2.1.1,x.2.1.1.1,x.2.1.2.1.1),fun v=>(((),((),((v.1,()),((v.2.1,()),())))),((v.2.2.1,()),((v.2.2.2,()),())),()),fun _=>rfl⟩ (fun v=>I7 v.1 v.2.1 v.2.2.1 v.2.2.2) .leaf))) .leaf)))
  (⟨trivial,⟨trivial,⟨⟨trivial,⟨trivial,fun v=>by kernel_rfl⟩⟩,trivial⟩⟩⟩) (fun a=>by kernel_rfl)
noncomputable def a13:TFn:=⟨.nil,.nil,.cons (.c (.d .bool)) .nil,Bool,fun _=>N8,fun r=>((),(r,())),.none⟩
theorem a4R:FnT Tryd.prog 9 a13:=
 fnT (T:=T) (TU:=TU) (Γ:=[(5,V5),(6,a7r),(8,S0)]) R7 (by rfl) (o9 a0I (o9 a9w (o9 a0c B2))) Tryd.func9 rfl rfl rfl rfl (fun x=>x.2.1) (fun _=>rfl)
  (.leaf)
  (trivial) (fun a=>by kernel_rfl)
noncomputable def a2O:TFn:=⟨.cons (.c (.d (.int .i64))) (.cons (.c (.d (.int .i64))) .nil),.nil,.cons (.c (.d .bool)) .nil,Bool,fun a=>K3 a.1 a.2.1,fun r=>((),(r,())),.none⟩
theorem a2L:FnT Tryd.prog 3 a2O:=
 fnT (T:=T) (TU:=TU) (Γ:=[(4,a2C),(5,V5),(6,a7r),(7,a3G),(8,S0),(9,a13)]) R7 (by rfl) (o9 a5l (o9 a0I (o9 a9w (o9 a62 (o9 a0c (o9 a4R B2)))))) Tryd.func3 rfl rfl rfl rfl (fun x=>x.2.1) (fun _=>rfl)
  (.two .leaf (.two .leaf (.cut ⟨100,[(1,.one (.d (.int .i64))),(5,.one (.ptr 1000000 0))],[(1000000,[.row 1000000,.d (.int .u64)])],[(1000000,A1,24,false)]⟩ ⟨fun x=>(x.1.1.1,x.2.1.1.1,x.2.2.1),fun v=>(((v.1,()),((),())),((v.2.1,()),()),(v.2.2,())),fun _=>rfl⟩ (fun v=>H8 v.1 v.2.1 v.2.2) (.two .leaf (.one (.loop ⟨100,[(1,.one (.d (.int .i64))),(5,.one (.ptr 1000000 0)),(6,.one (.d (.int .i64)))],[(1000000,[.row 1000000,.d (.int .u64)])],[(1000000,A1,24,false)]⟩ ⟨fun x=>(x.1.1.1,x.1.2.2.1.1,x.2.1.1.1,x.2.2.1),fun v=>(((v.1,()),((),((v.2.1,()),()))),((v.2.2.1,()),()),(v.2.2.2,())),fun _=>rfl⟩ (fun v=>M8 v.1 v.2.1 v.2.2.1 v.2.2.2) .leaf))) (.two .leaf (.cut ⟨100,[(5,.one (.ptr 1000000 0)),(7,.one (.ptr 1000001 0))],[(1000000,[.row 1000000,.d (.int .u64)]),(1000001,[.d .str,.d (.int .u64),.d (.int .u64),.d (.int .u64),.d .str,.row 1000001])],[(1000000,A1,24,false),(1000001,A3,35,false)]⟩ ⟨fun x=>(x.2.1.1.1,x.2.1.2.1.1,x.2.1.2.1.2.1,x.2.1.2.1.2.2.1,x.2.1.2.1.2.2.2.1,x.2.1.2.1.2.2.2.2.1,x.2.2.1,x.2.2.2.1),fun v=>(((),((),())),((v.1,()),((v.2.1,(v.2.2.1,(v.2.2.2.1,(v.2.2.2.2.1,(v.2.2.2.2.2.1,()))))),())),(v.2.2.2.2.2.2.1,(v.2.2.2.2.2.2.2,()))),fun _=>rfl⟩ (fun v=>H7 v.1 v.2.1 v.2.2.1 v.2.2.2.1 v.2.2.2.2.1 v.2.2.2.2.2.1 v.2.2.2.2.2.2.1 v.2.2.2.2.2.2.2) (.two .leaf (.one (.loop ⟨100,[(5,.one (.ptr 1000000 0)),(7,.one (.ptr 1000001 0)),(8,.one (.d (.int .i64)))],[(1000000,[.row 1000000,.d (.int .u64)]),(1000001,[.d .str,.d (.int .u64),.d (.int .u64),.d (.int .u64),.d .str,.row 1000001])],[(1000000,A1,24,false),(1000001,A3,35,false)]⟩ ⟨fun x=>(x.1.2.2.1.1,x.2.1.1.1,x.2.1.2.1.1,x.2.1.2.1.2.1,x.2.1.2.1.2.2.1,x.2.1.2.1.2.2.2.1,x.2.1.2.1.2.2.2.2.1,x.2.2.1,x.2.2.2.1),fun v=>(((),((),((v.1,()),()))),((v.2.1,()),((v.2.2.1,(v.2.2.2.1,(v.2.2.2.2.1,(v.2.2.2.2.2.1,(v.2.2.2.2.2.2.1,()))))),())),(v.2.2.2.2.2.2.2.1,(v.2.2.2.2.2.2.2.2,()))),fun _=>rfl⟩ (fun v=>M7 v.1 v.2.1 v.2.2.1 v.2.2.2.1 v.2.2.2.2.1 v.2.2.2.2.2.1 v.2.2.2.2.2.2.1 v.2.2.2.2.2.2.2.1 v.2.2.2.2.2.2.2.2) .leaf))) .leaf)))))
  (⟨trivial,⟨trivial,⟨⟨trivial,⟨trivial,fun v=>by kernel_rfl⟩⟩,⟨trivial,⟨⟨trivial,⟨trivial,fun v=>by kernel_rfl⟩⟩,trivial,fun v=>by kernel_rfl⟩⟩,fun v=>by kernel_rfl⟩⟩⟩) (fun a=>by kernel_rfl)
end Go.Proofs.YtbipjlehhlkghaaDoor.Am
