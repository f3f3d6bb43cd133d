/- The types that the abstract machine reads. No conditions. -/
import Derived.Test.YthadhfbkhldblaaKD
import Derived.Test.YthadhfbkhldblaaProg
import Derived.KernelRfl
namespace Go.Proofs.Ythadhfbkhldblaa.Am
open Go
set_option maxRecDepth 100000
def ti3:TI:=⟨.int .i64,1,8,[.int .i64 0],[],false,[]⟩
def ti4:TI:=⟨.bool,1,1,[.bool false],[],false,[]⟩
def ti5:TI:=⟨.int .u8,1,1,[.int .u8 0],[],false,[]⟩
def ti9:TI:=⟨.str,1,16,[.string ⟨#[]⟩],[],false,[]⟩
def b76:TI:=⟨.slice 3,1,24,[.slice none 0 0],[],false,[]⟩
def b77:TI:=⟨.ptr 62,1,8,[.pointer none],[],false,[]⟩
def b78:TI:=⟨.slice 43,1,24,[.slice none 0 0],[],false,[]⟩
def b79:TI:=⟨.slice 9,1,24,[.slice none 0 0],[],false,[]⟩
def b8a:TI:=⟨.int .u64,1,8,[.int .u64 0],[],false,[]⟩
def b8b:TI:=⟨.slice 38,1,24,[.slice none 0 0],[],false,[]⟩
def b8c:TI:=⟨.struct [(0,1),(1,1),(2,1)],3,32,[.string ⟨#[]⟩,.int .u64 0,.int .i64 0],[.s,.i .u64,.i .i64],false,[]⟩
def b8d:TI:=⟨.slice 22,1,24,[.slice none 0 0],[],false,[]⟩
def b8e:TI:=⟨.ptr 53,1,8,[.pointer none],[],false,[]⟩
def b8f:TI:=⟨.struct [(0,1),(1,1)],2,32,[.slice none 0 0,.int .i64 0],[],false,[]⟩
def b8g:TI:=⟨.map 9 67,1,8,[.map none],[],false,[]⟩
def b8h:TI:=⟨.struct [(0,1),(1,1)],2,16,[.map none,.int .i64 0],[],false,[]⟩
def b8i:TI:=⟨.other,1,8,[.nilFunc],[],false,[]⟩
def b8j:TI:=⟨.slice 70,1,24,[.slice none 0 0],[],false,[]⟩
def b8k:TI:=⟨.struct [(0,1),(1,1)],2,16,[.int .u64 0,.int .i64 0],[.i .u64,.i .i64],false,[]⟩
def b8l:TI:=⟨.other,1,8,[.nilFunc],[],false,[]⟩
def b8m:TI:=⟨.other,1,8,[.nilFunc],[],false,[]⟩
def b8n:TI:=⟨.int .u64,1,8,[.int .u64 0],[],false,[]⟩
def b8o:TI:=⟨.int .i64,1,8,[.int .i64 0],[],false,[]⟩
def b8p:TI:=⟨.int .u32,1,4,[.int .u32 0],[],false,[]⟩
def b6u:TI:=⟨.int .u64,1,8,[.int .u64 0],[],false,[]⟩
def b6v:TI:=⟨.ptr 3,1,8,[.pointer none],[],false,[]⟩
def b6w:TI:=⟨.ptr 100,1,8,[.pointer none],[],false,[]⟩
def u3:U:= .int .i64
def u4:U:= .bool
def u5:U:= .byte
def u9:U:= .str
def u22:U:= .sl u3
def u38:U:= .int .u64
def u43:U:= .pr u9 (.pr u38 (u3))
def u26:U:= .sl u43
def u32:U:= .sl u9
def u39:U:= .sl u38
def u48:U:= .sl u22
def u53:U:= .pr u22 (u3)
def u70:U:= .pr u38 (u3)
def u67:U:= .sl u70
def u86:U:= .int .u64
def u89:U:= .int .i64
def u97:U:= .int .u32
def b8E:U:= .int .u64
def TU:TypeId->Option U
 | 3=>some u3
 | 4=>some u4
 | 5=>some u5
 | 9=>some u9
 | 22=>some u22
 | 26=>some u26
 | 32=>some u32
 | 38=>some u38
 | 39=>some u39
 | 43=>some u43
 | 48=>some u48
 | 53=>some u53
 | 67=>some u67
 | 70=>some u70
 | 86=>some u86
 | 89=>some u89
 | 97=>some u97
 | 100=>some b8E
 | _=>none
def T:TypeId->Option TI
 | 3=>some ti3
 | 4=>some ti4
 | 5=>some ti5
 | 9=>some ti9
 | 22=>some b76
 | 25=>some b77
 | 26=>some b78
 | 32=>some b79
 | 38=>some b8a
 | 39=>some b8b
 | 43=>some b8c
 | 48=>some b8d
 | 50=>some b8e
 | 53=>some b8f
 | 60=>some b8g
 | 62=>some b8h
 | 65=>some b8i
 | 67=>some b8j
 | 70=>some b8k
 | 77=>some b8l
 | 80=>some b8m
 | 86=>some b8n
 | 89=>some b8o
 | 97=>some b8p
 | 100=>some b6u
 | 104=>some b6v
 | 106=>some b6w
 | _=>none
theorem b8F:TOk Try.prog 3 ti3:=TOk.mk' (by kernel_rfl) rfl rfl ⟨_,Try.underlying3,rfl⟩
theorem b8G:TOk Try.prog 4 ti4:=TOk.mk' (by kernel_rfl) rfl rfl ⟨_,Try.underlying4,rfl⟩
theorem b8H:TOk Try.prog 5 ti5:=TOk.mk' (by kernel_rfl) rfl rfl ⟨_,Try.underlying5,rfl⟩
theorem b6X:TOk Try.prog 9 ti9:=TOk.mk' (by kernel_rfl) rfl rfl ⟨_,Try.underlying9,rfl⟩
theorem b7s:TOk Try.prog 22 b76:=TOk.mk' (by kernel_rfl) rfl rfl ⟨_,Try.underlying22,rfl⟩
theorem b7t:TOk Try.prog 25 b77:=TOk.mk' (by kernel_rfl) rfl rfl ⟨_,Try.underlying25,rfl⟩
theorem b7u:TOk Try.prog 26 b78:=TOk.mk' (by kernel_rfl) rfl rfl ⟨_,Try.underlying26,rfl⟩
theorem b7v:TOk Try.prog 32 b79:=TOk.mk' (by kernel_rfl) rfl rfl ⟨_,Try.underlying32,rfl⟩
theorem b7w:TOk Try.prog 38 b8a:=TOk.mk' (by kernel_rfl) rfl rfl ⟨_,Try.underlying38,rfl⟩
theorem b7x:TOk Try.prog 39 b8b:=TOk.mk' (by kernel_rfl) rfl rfl ⟨_,Try.underlying39,rfl⟩
theorem b7y:TOk Try.prog 43 b8c:=TOk.mk' (by kernel_rfl) rfl rfl ⟨_,Try.underlying43,_,rfl,by kernel_rfl,by kernel_rfl⟩ (fun _=>⟨⟨20,by decide,by kernel_rfl⟩,by kernel_rfl⟩)
theorem b7z:TOk Try.prog 48 b8d:=TOk.mk' (by kernel_rfl) rfl rfl ⟨_,Try.underlying48,rfl⟩
theorem b7A:TOk Try.prog 50 b8e:=TOk.mk' (by kernel_rfl) rfl rfl ⟨_,Try.underlying50,rfl⟩
theorem b7B:TOk Try.prog 53 b8f:=TOk.mk' (by kernel_rfl) rfl rfl ⟨_,Try.underlying53,_,rfl,by kernel_rfl,by kernel_rfl⟩
theorem b7C:TOk Try.prog 60 b8g:=TOk.mk' (by kernel_rfl) rfl rfl ⟨_,Try.underlying60,rfl⟩
theorem b7D:TOk Try.prog 62 b8h:=TOk.mk' (by kernel_rfl) rfl rfl ⟨_,Try.underlying62,_,rfl,by kernel_rfl,by kernel_rfl⟩
theorem b7E:TOk Try.prog 65 b8i:=TOk.mk' (by kernel_rfl) rfl rfl ⟨_,Try.underlying65,rfl⟩
theorem b5b:TOk Try.prog 67 b8j:=TOk.mk' (by kernel_rfl) rfl rfl ⟨_,Try.underlying67,rfl⟩
theorem a7L:TOk Try.prog 70 b8k:=TOk.mk' (by kernel_rfl) rfl rfl ⟨_,Try.underlying70,_,rfl,by kernel_rfl,by kernel_rfl⟩ (fun _=>⟨⟨20,by decide,by kernel_rfl⟩,by kernel_rfl⟩)
theorem b7F:TOk Try.prog 77 b8l:=TOk.mk' (by kernel_rfl) rfl rfl ⟨_,Try.underlying77,rfl⟩
theorem b7G:TOk Try.prog 80 b8m:=TOk.mk' (by kernel_rfl) rfl rfl ⟨_,Try.underlying80,rfl⟩
theorem b7H:TOk Try.prog 86 b8n:=TOk.mk' (by kernel_rfl) rfl rfl ⟨_,Try.underlying86,rfl⟩
theorem b7I:TOk Try.prog 89 b8o:=TOk.mk' (by kernel_rfl) rfl rfl ⟨_,Try.underlying89,rfl⟩
theorem b7J:TOk Try.prog 97 b8p:=TOk.mk' (by kernel_rfl) rfl rfl ⟨_,Try.underlying97,rfl⟩
theorem b6x:TOk Try.prog 100 b6u:=TOk.mk' (by kernel_rfl) rfl rfl ⟨_,Try.underlying100,rfl⟩
theorem b6y:TOk Try.prog 104 b6v:=TOk.mk' (by kernel_rfl) rfl rfl ⟨_,Try.underlying104,rfl⟩
theorem b6z:TOk Try.prog 106 b6w:=TOk.mk' (by kernel_rfl) rfl rfl ⟨_,Try.underlying106,rfl⟩
theorem a0I:∀ t i,T t=some i->TOk Try.prog t i:=by
 intro t i h
 unfold T at h
 split at h
 ·injection h with h;subst h;exact b8F
 ·injection h with h;subst h;exact b8G
 ·injection h with h;subst h;exact b8H
 ·injection h with h;subst h;exact b6X
 ·injection h with h;subst h;exact b7s
 ·injection h with h;subst h;exact b7t
 ·injection h with h;subst h;exact b7u
 ·injection h with h;subst h;exact b7v
 ·injection h with h;subst h;exact b7w
 ·injection h with h;subst h;exact b7x
 ·injection h with h;subst h;exact b7y
 ·injection h with h;subst h;exact b7z
 ·injection h with h;subst h;exact b7A
 ·injection h with h;subst h;exact b7B
 ·injection h with h;subst h;exact b7C
 ·injection h with h;subst h;exact b7D
 ·injection h with h;subst h;exact b7E
 ·injection h with h;subst h;exact b5b
 ·injection h with h;subst h;exact a7L
 ·injection h with h;subst h;exact b7F
 ·injection h with h;subst h;exact b7G
 ·injection h with h;subst h;exact b7H
 ·injection h with h;subst h;exact b7I
 ·injection h with h;subst h;exact b7J
 ·injection h with h;subst h;exact b6x
 ·injection h with h;subst h;exact b6y
 ·injection h with h;subst h;exact b6z
 ·cases h
end Go.Proofs.Ythadhfbkhldblaa.Am
