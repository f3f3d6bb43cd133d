/- The types that the abstract machine reads. No conditions. -/
import Derived.Test.YtacnfjjkhpkloaaGreatKD
import Derived.Test.YtacnfjjkhpkloaaGreatProg
import Derived.KernelRfl
namespace Go.Proofs.YtacnfjjkhpkloaaGreat.Am
open Go
set_option maxRecDepth 100000
def ti3:TI:=⟨.int .i64,1,8,[.int .i64 0],[],false,[]⟩
def ti4:TI:=⟨.bool,1,1,[.bool false],[],false,[]⟩
def ti5:TI:=⟨.int .u8,1,1,[.int .u8 0],[],false,[]⟩
def ti9:TI:=⟨.str,1,16,[.string ⟨#[]⟩],[],false,[]⟩
def c9r:TI:=⟨.slice 3,1,24,[.slice none 0 0],[],false,[]⟩
def c9s:TI:=⟨.int .u64,1,8,[.int .u64 0],[],false,[]⟩
def c9t:TI:=⟨.struct [(0,1),(1,1),(2,1),(3,1),(4,1),(5,1),(6,1),(7,1),(8,1),(9,1),(10,1),(11,1)],12,96,[.int .i64 0,.int .i64 0,.int .i64 0,.int .i64 0,.int .i64 0,.int .i64 0,.bool false,.int .i64 0,.int .i64 0,.int .u64 0,.int .i64 0,.int .i64 0],[.i .i64,.i .i64,.i .i64,.i .i64,.i .i64,.i .i64,.b,.i .i64,.i .i64,.i .u64,.i .i64,.i .i64],false,[]⟩
def c9u:TI:=⟨.arr 32 5,32,32,[.int .u8 0,.int .u8 0,.int .u8 0,.int .u8 0,.int .u8 0,.int .u8 0,.int .u8 0,.int .u8 0,.int .u8 0,.int .u8 0,.int .u8 0,.int .u8 0,.int .u8 0,.int .u8 0,.int .u8 0,.int .u8 0,.int .u8 0,.int .u8 0,.int .u8 0,.int .u8 0,.int .u8 0,.int .u8 0,.int .u8 0,.int .u8 0,.int .u8 0,.int .u8 0,.int .u8 0,.int .u8 0,.int .u8 0,.int .u8 0,.int .u8 0,.int .u8 0],[.i .u8,.i .u8,.i .u8,.i .u8,.i .u8,.i .u8,.i .u8,.i .u8,.i .u8,.i .u8,.i .u8,.i .u8,.i .u8,.i .u8,.i .u8,.i .u8,.i .u8,.i .u8,.i .u8,.i .u8,.i .u8,.i .u8,.i .u8,.i .u8,.i .u8,.i .u8,.i .u8,.i .u8,.i .u8,.i .u8,.i .u8,.i .u8],false,[]⟩
def c9v:TI:=⟨.ptr 91,1,8,[.pointer none],[],false,[]⟩
def c9w:TI:=⟨.slice 51,1,24,[.slice none 0 0],[],false,[]⟩
def c9x:TI:=⟨.struct [(0,12),(12,1)],13,120,[.int .i64 0,.int .i64 0,.int .i64 0,.int .i64 0,.int .i64 0,.int .i64 0,.bool false,.int .i64 0,.int .i64 0,.int .u64 0,.int .i64 0,.int .i64 0,.slice none 0 0],[],false,[]⟩
def c9y:TI:=⟨.slice 9,1,24,[.slice none 0 0],[],false,[]⟩
def c9z:TI:=⟨.arr 2 3,2,16,[.int .i64 0,.int .i64 0],[.i .i64,.i .i64],false,[]⟩
def c9A:TI:=⟨.slice 42,1,24,[.slice none 0 0],[],false,[]⟩
def c9B:TI:=⟨.slice 27,1,24,[.slice none 0 0],[],false,[]⟩
def c9C:TI:=⟨.slice 5,1,24,[.slice none 0 0],[],false,[]⟩
def c9D:TI:=⟨.struct [(0,32),(32,1),(33,1),(34,1),(35,1),(36,1),(37,1),(38,1),(39,1),(40,1)],41,144,[.int .u8 0,.int .u8 0,.int .u8 0,.int .u8 0,.int .u8 0,.int .u8 0,.int .u8 0,.int .u8 0,.int .u8 0,.int .u8 0,.int .u8 0,.int .u8 0,.int .u8 0,.int .u8 0,.int .u8 0,.int .u8 0,.int .u8 0,.int .u8 0,.int .u8 0,.int .u8 0,.int .u8 0,.int .u8 0,.int .u8 0,.int .u8 0,.int .u8 0,.int .u8 0,.int .u8 0,.int .u8 0,.int .u8 0,.int .u8 0,.int .u8 0,.int .u8 0,.slice none 0 0,.string ⟨#[]⟩,.int .u64 0,.int .u64 0,.int .u64 0,.int .i64 0,.int .i64 0,.int .i64 0,.slice none 0 0],[],false,[]⟩
def c9E:TI:=⟨.int .i64,1,8,[.int .i64 0],[],false,[]⟩
def c9F:TI:=⟨.ptr 66,1,8,[.pointer none],[],false,[]⟩
def c9G:TI:=⟨.struct [(0,1),(1,1)],2,32,[.slice none 0 0,.int .i64 0],[],false,[]⟩
def c9H:TI:=⟨.slice 31,1,24,[.slice none 0 0],[],false,[]⟩
def c9I:TI:=⟨.slice 22,1,24,[.slice none 0 0],[],false,[]⟩
def c9J:TI:=⟨.slice 94,1,24,[.slice none 0 0],[],false,[]⟩
def c9K:TI:=⟨.ptr 146,1,8,[.pointer none],[],false,[]⟩
def c9L:TI:=⟨.ptr 126,1,8,[.pointer none],[],false,[]⟩
def c9M:TI:=⟨.ptr 161,1,8,[.pointer none],[],false,[]⟩
def c9N:TI:=⟨.ptr 140,1,8,[.pointer none],[],false,[]⟩
def c9O:TI:=⟨.map 3 102,1,8,[.map none],[],false,[]⟩
def c9P:TI:=⟨.map 27 3,1,8,[.map none],[],false,[]⟩
def c9Q:TI:=⟨.struct [(0,12),(12,1),(13,1),(14,1),(15,1),(16,1),(17,1),(18,1)],19,152,[.int .i64 0,.int .i64 0,.int .i64 0,.int .i64 0,.int .i64 0,.int .i64 0,.bool false,.int .i64 0,.int .i64 0,.int .u64 0,.int .i64 0,.int .i64 0,.pointer none,.pointer none,.pointer none,.pointer none,.map none,.map none,.int .i64 0],[],false,[]⟩
def c9R:TI:=⟨.struct [(0,1),(1,1),(2,1)],3,24,[.int .i64 0,.int .u64 0,.int .i64 0],[.i .i64,.i .u64,.i .i64],false,[]⟩
def c58:TI:=⟨.struct [(0,1),(1,1)],2,16,[.int .i64 0,.int .i64 0],[.i .i64,.i .i64],false,[]⟩
def c59:TI:=⟨.other,1,8,[.nilFunc],[],false,[]⟩
def c6a:TI:=⟨.other,1,8,[.nilFunc],[],false,[]⟩
def c6b:TI:=⟨.map 3 3,1,8,[.map none],[],false,[]⟩
def c6c:TI:=⟨.struct [(0,1),(1,1)],2,32,[.slice none 0 0,.map none],[],false,[]⟩
def c6d:TI:=⟨.other,1,8,[.nilFunc],[],false,[]⟩
def c6e:TI:=⟨.slice 134,1,24,[.slice none 0 0],[],false,[]⟩
def c6f:TI:=⟨.struct [(0,1),(1,1)],2,16,[.int .u64 0,.int .i64 0],[.i .u64,.i .i64],false,[]⟩
def c6g:TI:=⟨.map 3 138,1,8,[.map none],[],false,[]⟩
def c6h:TI:=⟨.struct [(0,1),(1,1)],2,16,[.int .i64 0,.int .i64 0],[.i .i64,.i .i64],false,[]⟩
def c6i:TI:=⟨.struct [(0,1),(1,1),(2,1)],3,24,[.int .i64 0,.int .i64 0,.map none],[],false,[]⟩
def c6j:TI:=⟨.struct [(0,41),(41,1),(42,1),(43,1)],44,168,[.int .u8 0,.int .u8 0,.int .u8 0,.int .u8 0,.int .u8 0,.int .u8 0,.int .u8 0,.int .u8 0,.int .u8 0,.int .u8 0,.int .u8 0,.int .u8 0,.int .u8 0,.int .u8 0,.int .u8 0,.int .u8 0,.int .u8 0,.int .u8 0,.int .u8 0,.int .u8 0,.int .u8 0,.int .u8 0,.int .u8 0,.int .u8 0,.int .u8 0,.int .u8 0,.int .u8 0,.int .u8 0,.int .u8 0,.int .u8 0,.int .u8 0,.int .u8 0,.slice none 0 0,.string ⟨#[]⟩,.int .u64 0,.int .u64 0,.int .u64 0,.int .i64 0,.int .i64 0,.int .i64 0,.slice none 0 0,.int .i64 0,.bool false,.int .i64 0],[],false,[]⟩
def c6k:TI:=⟨.slice 143,1,24,[.slice none 0 0],[],false,[]⟩
def c6l:TI:=⟨.struct [(0,1),(1,1),(2,1),(3,1)],4,48,[.int .i64 0,.int .i64 0,.slice none 0 0,.int .i64 0],[],false,[]⟩
def c6m:TI:=⟨.struct [(0,1),(1,1)],2,16,[.int .u64 0,.bool false],[.i .u64,.b],false,[]⟩
def c6n:TI:=⟨.struct [(0,1),(1,2),(3,2),(5,2)],7,64,[.string ⟨#[]⟩,.int .u64 0,.bool false,.int .u64 0,.bool false,.int .u64 0,.bool false],[.s,.i .u64,.b,.i .u64,.b,.i .u64,.b],false,[]⟩
def c6o:TI:=⟨.arr 12 151,84,768,[.string ⟨#[]⟩,.int .u64 0,.bool false,.int .u64 0,.bool false,.int .u64 0,.bool false,.string ⟨#[]⟩,.int .u64 0,.bool false,.int .u64 0,.bool false,.int .u64 0,.bool false,.string ⟨#[]⟩,.int .u64 0,.bool false,.int .u64 0,.bool false,.int .u64 0,.bool false,.string ⟨#[]⟩,.int .u64 0,.bool false,.int .u64 0,.bool false,.int .u64 0,.bool false,.string ⟨#[]⟩,.int .u64 0,.bool false,.int .u64 0,.bool false,.int .u64 0,.bool false,.string ⟨#[]⟩,.int .u64 0,.bool false,.int .u64 0,.bool false,.int .u64 0,.bool false,.string ⟨#[]⟩,.int .u64 0,.bool false,.int .u64 0,.bool false,.int .u64 0,.bool false,.string ⟨#[]⟩,.int .u64 0,.bool false,.int .u64 0,.bool false,.int .u64 0,.bool false,.string ⟨#[]⟩,.int .u64 0,.bool false,.int .u64 0,.bool false,.int .u64 0,.bool false,.string ⟨#[]⟩,.int .u64 0,.bool false,.int .u64 0,.bool false,.int .u64 0,.bool false,.string ⟨#[]⟩,.int .u64 0,.bool false,.int .u64 0,.bool false,.int .u64 0,.bool false,.string ⟨#[]⟩,.int .u64 0,.bool false,.int .u64 0,.bool false,.int .u64 0,.bool false],[.s,.i .u64,.b,.i .u64,.b,.i .u64,.b,.s,.i .u64,.b,.i .u64,.b,.i .u64,.b,.s,.i .u64,.b,.i .u64,.b,.i .u64,.b,.s,.i .u64,.b,.i .u64,.b,.i .u64,.b,.s,.i .u64,.b,.i .u64,.b,.i .u64,.b,.s,.i .u64,.b,.i .u64,.b,.i .u64,.b,.s,.i .u64,.b,.i .u64,.b,.i .u64,.b,.s,.i .u64,.b,.i .u64,.b,.i .u64,.b,.s,.i .u64,.b,.i .u64,.b,.i .u64,.b,.s,.i .u64,.b,.i .u64,.b,.i .u64,.b,.s,.i .u64,.b,.i .u64,.b,.i .u64,.b,.s,.i .u64,.b,.i .u64,.b,.i .u64,.b],false,[]⟩
def c6p:TI:=⟨.ptr 25,1,8,[.pointer none],[],false,[]⟩
def c6q:TI:=⟨.map 9 131,1,8,[.map none],[],false,[]⟩
def c6r:TI:=⟨.struct [(0,1),(1,1)],2,16,[.map none,.int .i64 0],[],false,[]⟩
def c6s:TI:=⟨.int .u32,1,4,[.int .u32 0],[],false,[]⟩
def c6t:TI:=⟨.arr 8 167,8,32,[.int .u32 0,.int .u32 0,.int .u32 0,.int .u32 0,.int .u32 0,.int .u32 0,.int .u32 0,.int .u32 0],[.i .u32,.i .u32,.i .u32,.i .u32,.i .u32,.i .u32,.i .u32,.i .u32],false,[]⟩
def c6u:TI:=⟨.int .u64,1,8,[.int .u64 0],[],false,[]⟩
def c6v:TI:=⟨.ptr 3,1,8,[.pointer none],[],false,[]⟩
def c6w:TI:=⟨.arr 12 181,12,96,[.pointer none,.pointer none,.pointer none,.pointer none,.pointer none,.pointer none,.pointer none,.pointer none,.pointer none,.pointer none,.pointer none,.pointer none],[],false,[]⟩
def c6x:TI:=⟨.other,1,8,[.nilFunc],[],false,[]⟩
def c6y:TI:=⟨.arr 64 167,64,256,[.int .u32 0,.int .u32 0,.int .u32 0,.int .u32 0,.int .u32 0,.int .u32 0,.int .u32 0,.int .u32 0,.int .u32 0,.int .u32 0,.int .u32 0,.int .u32 0,.int .u32 0,.int .u32 0,.int .u32 0,.int .u32 0,.int .u32 0,.int .u32 0,.int .u32 0,.int .u32 0,.int .u32 0,.int .u32 0,.int .u32 0,.int .u32 0,.int .u32 0,.int .u32 0,.int .u32 0,.int .u32 0,.int .u32 0,.int .u32 0,.int .u32 0,.int .u32 0,.int .u32 0,.int .u32 0,.int .u32 0,.int .u32 0,.int .u32 0,.int .u32 0,.int .u32 0,.int .u32 0,.int .u32 0,.int .u32 0,.int .u32 0,.int .u32 0,.int .u32 0,.int .u32 0,.int .u32 0,.int .u32 0,.int .u32 0,.int .u32 0,.int .u32 0,.int .u32 0,.int .u32 0,.int .u32 0,.int .u32 0,.int .u32 0,.int .u32 0,.int .u32 0,.int .u32 0,.int .u32 0,.int .u32 0,.int .u32 0,.int .u32 0,.int .u32 0],[.i .u32,.i .u32,.i .u32,.i .u32,.i .u32,.i .u32,.i .u32,.i .u32,.i .u32,.i .u32,.i .u32,.i .u32,.i .u32,.i .u32,.i .u32,.i .u32,.i .u32,.i .u32,.i .u32,.i .u32,.i .u32,.i .u32,.i .u32,.i .u32,.i .u32,.i .u32,.i .u32,.i .u32,.i .u32,.i .u32,.i .u32,.i .u32,.i .u32,.i .u32,.i .u32,.i .u32,.i .u32,.i .u32,.i .u32,.i .u32,.i .u32,.i .u32,.i .u32,.i .u32,.i .u32,.i .u32,.i .u32,.i .u32,.i .u32,.i .u32,.i .u32,.i .u32,.i .u32,.i .u32,.i .u32,.i .u32,.i .u32,.i .u32,.i .u32,.i .u32,.i .u32,.i .u32,.i .u32,.i .u32],false,[]⟩
def c6z:TI:=⟨.int .i64,1,8,[.int .i64 0],[],false,[]⟩
def c6A:TI:=⟨.int .u64,1,8,[.int .u64 0],[],false,[]⟩
def c6B:TI:=⟨.ptr 209,1,8,[.pointer none],[],false,[]⟩
def u3:U:= .int .i64
def u4:U:= .bool
def u5:U:= .byte
def u9:U:= .str
def u22:U:= .sl u3
def u23:U:= .int .u64
def u25:U:= .pr u3 (.pr u3 (.pr u3 (.pr u3 (.pr u3 (.pr u3 (.pr u4 (.pr u3 (.pr u3 (.pr u23 (.pr u3 (u3)))))))))))
def u27:U:= .arr 32 u5
def u49:U:= .sl u5
def u51:U:= .pr u27 (.pr u49 (.pr u9 (.pr u23 (.pr u23 (.pr u23 (.pr u3 (.pr u3 (.pr u3 (u22)))))))))
def u31:U:= .sl u51
def u33:U:= .pr u25 (u31)
def u39:U:= .sl u9
def u42:U:= .arr 2 u3
def u44:U:= .sl u42
def u46:U:= .sl u27
def u61:U:= .int .i64
def u66:U:= .pr u22 (u3)
def u72:U:= .sl u31
def u74:U:= .sl u22
def u94:U:= .pr u3 (.pr u23 (u3))
def u83:U:= .sl u94
def d0a:U:= .pr u3 (u3)
def c9S:U:= .pr u23 (u3)
def d0b:U:= .sl c9S
def d0c:U:= .pr u3 (u3)
def c9T:U:= .pr u51 (.pr u3 (.pr u4 (u3)))
def c9U:U:= .sl c9T
def d0d:U:= .pr u3 (.pr u3 (.pr c9U (u3)))
def c7G:U:= .pr u23 (u4)
def c9V:U:= .pr u9 (.pr c7G (.pr c7G (c7G)))
def d0e:U:= .arr 12 c9V
def c8p:U:= .int .u32
def d0f:U:= .arr 8 c8p
def d0g:U:= .int .u64
def d0h:U:= .arr 64 c8p
def d0i:U:= .int .i64
def d0j:U:= .int .u64
def TU:TypeId->Option U
 | 3=>some u3
 | 4=>some u4
 | 5=>some u5
 | 9=>some u9
 | 22=>some u22
 | 23=>some u23
 | 25=>some u25
 | 27=>some u27
 | 31=>some u31
 | 33=>some u33
 | 39=>some u39
 | 42=>some u42
 | 44=>some u44
 | 46=>some u46
 | 49=>some u49
 | 51=>some u51
 | 61=>some u61
 | 66=>some u66
 | 72=>some u72
 | 74=>some u74
 | 83=>some u83
 | 94=>some u94
 | 102=>some d0a
 | 131=>some d0b
 | 134=>some c9S
 | 138=>some d0c
 | 143=>some c9T
 | 144=>some c9U
 | 146=>some d0d
 | 149=>some c7G
 | 151=>some c9V
 | 152=>some d0e
 | 167=>some c8p
 | 168=>some d0f
 | 174=>some d0g
 | 191=>some d0h
 | 195=>some d0i
 | 209=>some d0j
 | _=>none
def T:TypeId->Option TI
 | 3=>some ti3
 | 4=>some ti4
 | 5=>some ti5
 | 9=>some ti9
 | 22=>some c9r
 | 23=>some c9s
 | 25=>some c9t
 | 27=>some c9u
 | 30=>some c9v
 | 31=>some c9w
 | 33=>some c9x
 | 39=>some c9y
 | 42=>some c9z
 | 44=>some c9A
 | 46=>some c9B
 | 49=>some c9C
 | 51=>some c9D
 | 61=>some c9E
 | 63=>some c9F
 | 66=>some c9G
 | 72=>some c9H
 | 74=>some c9I
 | 83=>some c9J
 | 84=>some c9K
 | 85=>some c9L
 | 86=>some c9M
 | 87=>some c9N
 | 88=>some c9O
 | 89=>some c9P
 | 91=>some c9Q
 | 94=>some c9R
 | 102=>some c58
 | 106=>some c59
 | 121=>some c6a
 | 124=>some c6b
 | 126=>some c6c
 | 130=>some c6d
 | 131=>some c6e
 | 134=>some c6f
 | 136=>some c6g
 | 138=>some c6h
 | 140=>some c6i
 | 143=>some c6j
 | 144=>some c6k
 | 146=>some c6l
 | 149=>some c6m
 | 151=>some c6n
 | 152=>some c6o
 | 158=>some c6p
 | 159=>some c6q
 | 161=>some c6r
 | 167=>some c6s
 | 168=>some c6t
 | 174=>some c6u
 | 181=>some c6v
 | 182=>some c6w
 | 186=>some c6x
 | 191=>some c6y
 | 195=>some c6z
 | 209=>some c6A
 | 217=>some c6B
 | _=>none
theorem d0k:TOk Tryz.prog 3 ti3:=TOk.mk' (by kernel_rfl) rfl rfl ⟨_,Tryz.underlying3,rfl⟩
theorem d0l:TOk Tryz.prog 4 ti4:=TOk.mk' (by kernel_rfl) rfl rfl ⟨_,Tryz.underlying4,rfl⟩
theorem d0m:TOk Tryz.prog 5 ti5:=TOk.mk' (by kernel_rfl) rfl rfl ⟨_,Tryz.underlying5,rfl⟩
theorem c7H:TOk Tryz.prog 9 ti9:=TOk.mk' (by kernel_rfl) rfl rfl ⟨_,Tryz.underlying9,rfl⟩
theorem c8q:TOk Tryz.prog 22 c9r:=TOk.mk' (by kernel_rfl) rfl rfl ⟨_,Tryz.underlying22,rfl⟩
theorem c8r:TOk Tryz.prog 23 c9s:=TOk.mk' (by kernel_rfl) rfl rfl ⟨_,Tryz.underlying23,rfl⟩
theorem c8s:TOk Tryz.prog 25 c9t:=TOk.mk' (by kernel_rfl) rfl rfl ⟨_,Tryz.underlying25,_,rfl,by kernel_rfl,by kernel_rfl⟩ (fun _=>⟨⟨20,by decide,by kernel_rfl⟩,by kernel_rfl⟩)
theorem c8t:TOk Tryz.prog 27 c9u:=TOk.mk' (by kernel_rfl) rfl rfl ⟨_,Tryz.underlying27,rfl⟩ (fun _=>⟨⟨20,by decide,by kernel_rfl⟩,by kernel_rfl⟩)
theorem c8u:TOk Tryz.prog 30 c9v:=TOk.mk' (by kernel_rfl) rfl rfl ⟨_,Tryz.underlying30,rfl⟩
theorem c8v:TOk Tryz.prog 31 c9w:=TOk.mk' (by kernel_rfl) rfl rfl ⟨_,Tryz.underlying31,rfl⟩
theorem c8w:TOk Tryz.prog 33 c9x:=TOk.mk' (by kernel_rfl) rfl rfl ⟨_,Tryz.underlying33,_,rfl,by kernel_rfl,by kernel_rfl⟩
theorem c8x:TOk Tryz.prog 39 c9y:=TOk.mk' (by kernel_rfl) rfl rfl ⟨_,Tryz.underlying39,rfl⟩
theorem c8y:TOk Tryz.prog 42 c9z:=TOk.mk' (by kernel_rfl) rfl rfl ⟨_,Tryz.underlying42,rfl⟩ (fun _=>⟨⟨20,by decide,by kernel_rfl⟩,by kernel_rfl⟩)
theorem c8z:TOk Tryz.prog 44 c9A:=TOk.mk' (by kernel_rfl) rfl rfl ⟨_,Tryz.underlying44,rfl⟩
theorem c8A:TOk Tryz.prog 46 c9B:=TOk.mk' (by kernel_rfl) rfl rfl ⟨_,Tryz.underlying46,rfl⟩
theorem c8B:TOk Tryz.prog 49 c9C:=TOk.mk' (by kernel_rfl) rfl rfl ⟨_,Tryz.underlying49,rfl⟩
theorem c8C:TOk Tryz.prog 51 c9D:=TOk.mk' (by kernel_rfl) rfl rfl ⟨_,Tryz.underlying51,_,rfl,by kernel_rfl,by kernel_rfl⟩
theorem c8D:TOk Tryz.prog 61 c9E:=TOk.mk' (by kernel_rfl) rfl rfl ⟨_,Tryz.underlying61,rfl⟩
theorem c8E:TOk Tryz.prog 63 c9F:=TOk.mk' (by kernel_rfl) rfl rfl ⟨_,Tryz.underlying63,rfl⟩
theorem c8F:TOk Tryz.prog 66 c9G:=TOk.mk' (by kernel_rfl) rfl rfl ⟨_,Tryz.underlying66,_,rfl,by kernel_rfl,by kernel_rfl⟩
theorem c8G:TOk Tryz.prog 72 c9H:=TOk.mk' (by kernel_rfl) rfl rfl ⟨_,Tryz.underlying72,rfl⟩
theorem c8H:TOk Tryz.prog 74 c9I:=TOk.mk' (by kernel_rfl) rfl rfl ⟨_,Tryz.underlying74,rfl⟩
theorem c8I:TOk Tryz.prog 83 c9J:=TOk.mk' (by kernel_rfl) rfl rfl ⟨_,Tryz.underlying83,rfl⟩
theorem c8J:TOk Tryz.prog 84 c9K:=TOk.mk' (by kernel_rfl) rfl rfl ⟨_,Tryz.underlying84,rfl⟩
theorem c8K:TOk Tryz.prog 85 c9L:=TOk.mk' (by kernel_rfl) rfl rfl ⟨_,Tryz.underlying85,rfl⟩
theorem c8L:TOk Tryz.prog 86 c9M:=TOk.mk' (by kernel_rfl) rfl rfl ⟨_,Tryz.underlying86,rfl⟩
theorem c8M:TOk Tryz.prog 87 c9N:=TOk.mk' (by kernel_rfl) rfl rfl ⟨_,Tryz.underlying87,rfl⟩
theorem c8N:TOk Tryz.prog 88 c9O:=TOk.mk' (by kernel_rfl) rfl rfl ⟨_,Tryz.underlying88,rfl⟩
theorem c8O:TOk Tryz.prog 89 c9P:=TOk.mk' (by kernel_rfl) rfl rfl ⟨_,Tryz.underlying89,rfl⟩
theorem c8P:TOk Tryz.prog 91 c9Q:=TOk.mk' (by kernel_rfl) rfl rfl ⟨_,Tryz.underlying91,_,rfl,by kernel_rfl,by kernel_rfl⟩
theorem c4q:TOk Tryz.prog 94 c9R:=TOk.mk' (by kernel_rfl) rfl rfl ⟨_,Tryz.underlying94,_,rfl,by kernel_rfl,by kernel_rfl⟩ (fun _=>⟨⟨20,by decide,by kernel_rfl⟩,by kernel_rfl⟩)
theorem c6C:TOk Tryz.prog 102 c58:=TOk.mk' (by kernel_rfl) rfl rfl ⟨_,Tryz.underlying102,_,rfl,by kernel_rfl,by kernel_rfl⟩ (fun _=>⟨⟨20,by decide,by kernel_rfl⟩,by kernel_rfl⟩)
theorem c6D:TOk Tryz.prog 106 c59:=TOk.mk' (by kernel_rfl) rfl rfl ⟨_,Tryz.underlying106,rfl⟩
theorem c6E:TOk Tryz.prog 121 c6a:=TOk.mk' (by kernel_rfl) rfl rfl ⟨_,Tryz.underlying121,rfl⟩
theorem c6F:TOk Tryz.prog 124 c6b:=TOk.mk' (by kernel_rfl) rfl rfl ⟨_,Tryz.underlying124,rfl⟩
theorem c6G:TOk Tryz.prog 126 c6c:=TOk.mk' (by kernel_rfl) rfl rfl ⟨_,Tryz.underlying126,_,rfl,by kernel_rfl,by kernel_rfl⟩
theorem c6H:TOk Tryz.prog 130 c6d:=TOk.mk' (by kernel_rfl) rfl rfl ⟨_,Tryz.underlying130,rfl⟩
theorem b9W:TOk Tryz.prog 131 c6e:=TOk.mk' (by kernel_rfl) rfl rfl ⟨_,Tryz.underlying131,rfl⟩
theorem a99:TOk Tryz.prog 134 c6f:=TOk.mk' (by kernel_rfl) rfl rfl ⟨_,Tryz.underlying134,_,rfl,by kernel_rfl,by kernel_rfl⟩ (fun _=>⟨⟨20,by decide,by kernel_rfl⟩,by kernel_rfl⟩)
theorem c6I:TOk Tryz.prog 136 c6g:=TOk.mk' (by kernel_rfl) rfl rfl ⟨_,Tryz.underlying136,rfl⟩
theorem c6J:TOk Tryz.prog 138 c6h:=TOk.mk' (by kernel_rfl) rfl rfl ⟨_,Tryz.underlying138,_,rfl,by kernel_rfl,by kernel_rfl⟩ (fun _=>⟨⟨20,by decide,by kernel_rfl⟩,by kernel_rfl⟩)
theorem c6K:TOk Tryz.prog 140 c6i:=TOk.mk' (by kernel_rfl) rfl rfl ⟨_,Tryz.underlying140,_,rfl,by kernel_rfl,by kernel_rfl⟩
theorem c6L:TOk Tryz.prog 143 c6j:=TOk.mk' (by kernel_rfl) rfl rfl ⟨_,Tryz.underlying143,_,rfl,by kernel_rfl,by kernel_rfl⟩
theorem c6M:TOk Tryz.prog 144 c6k:=TOk.mk' (by kernel_rfl) rfl rfl ⟨_,Tryz.underlying144,rfl⟩
theorem c6N:TOk Tryz.prog 146 c6l:=TOk.mk' (by kernel_rfl) rfl rfl ⟨_,Tryz.underlying146,_,rfl,by kernel_rfl,by kernel_rfl⟩
theorem c6O:TOk Tryz.prog 149 c6m:=TOk.mk' (by kernel_rfl) rfl rfl ⟨_,Tryz.underlying149,_,rfl,by kernel_rfl,by kernel_rfl⟩ (fun _=>⟨⟨20,by decide,by kernel_rfl⟩,by kernel_rfl⟩)
theorem c6P:TOk Tryz.prog 151 c6n:=TOk.mk' (by kernel_rfl) rfl rfl ⟨_,Tryz.underlying151,_,rfl,by kernel_rfl,by kernel_rfl⟩ (fun _=>⟨⟨20,by decide,by kernel_rfl⟩,by kernel_rfl⟩)
theorem c6Q:TOk Tryz.prog 152 c6o:=TOk.mk' (by kernel_rfl) rfl rfl ⟨_,Tryz.underlying152,rfl⟩ (fun _=>⟨⟨20,by decide,by kernel_rfl⟩,by kernel_rfl⟩)
theorem c6R:TOk Tryz.prog 158 c6p:=TOk.mk' (by kernel_rfl) rfl rfl ⟨_,Tryz.underlying158,rfl⟩
theorem c6S:TOk Tryz.prog 159 c6q:=TOk.mk' (by kernel_rfl) rfl rfl ⟨_,Tryz.underlying159,rfl⟩
theorem c6T:TOk Tryz.prog 161 c6r:=TOk.mk' (by kernel_rfl) rfl rfl ⟨_,Tryz.underlying161,_,rfl,by kernel_rfl,by kernel_rfl⟩
theorem c6U:TOk Tryz.prog 167 c6s:=TOk.mk' (by kernel_rfl) rfl rfl ⟨_,Tryz.underlying167,rfl⟩
theorem c6V:TOk Tryz.prog 168 c6t:=TOk.mk' (by kernel_rfl) rfl rfl ⟨_,Tryz.underlying168,rfl⟩ (fun _=>⟨⟨20,by decide,by kernel_rfl⟩,by kernel_rfl⟩)
theorem c6W:TOk Tryz.prog 174 c6u:=TOk.mk' (by kernel_rfl) rfl rfl ⟨_,Tryz.underlying174,rfl⟩
theorem c6X:TOk Tryz.prog 181 c6v:=TOk.mk' (by kernel_rfl) rfl rfl ⟨_,Tryz.underlying181,rfl⟩
theorem c6Y:TOk Tryz.prog 182 c6w:=TOk.mk' (by kernel_rfl) rfl rfl ⟨_,Tryz.underlying182,rfl⟩
theorem c6Z:TOk Tryz.prog 186 c6x:=TOk.mk' (by kernel_rfl) rfl rfl ⟨_,Tryz.underlying186,rfl⟩
theorem c60:TOk Tryz.prog 191 c6y:=TOk.mk' (by kernel_rfl) rfl rfl ⟨_,Tryz.underlying191,rfl⟩ (fun _=>⟨⟨20,by decide,by kernel_rfl⟩,by kernel_rfl⟩)
theorem c61:TOk Tryz.prog 195 c6z:=TOk.mk' (by kernel_rfl) rfl rfl ⟨_,Tryz.underlying195,rfl⟩
theorem c62:TOk Tryz.prog 209 c6A:=TOk.mk' (by kernel_rfl) rfl rfl ⟨_,Tryz.underlying209,rfl⟩
theorem c63:TOk Tryz.prog 217 c6B:=TOk.mk' (by kernel_rfl) rfl rfl ⟨_,Tryz.underlying217,rfl⟩
theorem W5:∀ t i,T t=some i->TOk Tryz.prog t i:=by
 intro t i h
 unfold T at h
 split at h
 ·injection h with h;subst h;exact d0k
 ·injection h with h;subst h;exact d0l
 ·injection h with h;subst h;exact d0m
 ·injection h with h;subst h;exact c7H
 ·injection h with h;subst h;exact c8q
 ·injection h with h;subst h;exact c8r
 ·injection h with h;subst h;exact c8s
 ·injection h with h;subst h;exact c8t
 ·injection h with h;subst h;exact c8u
 ·injection h with h;subst h;exact c8v
 ·injection h with h;subst h;exact c8w
 ·injection h with h;subst h;exact c8x
 ·injection h with h;subst h;exact c8y
 ·injection h with h;subst h;exact c8z
 ·injection h with h;subst h;exact c8A
 ·injection h with h;subst h;exact c8B
 ·injection h with h;subst h;exact c8C
 ·injection h with h;subst h;exact c8D
 ·injection h with h;subst h;exact c8E
 ·injection h with h;subst h;exact c8F
 ·injection h with h;subst h;exact c8G
 ·injection h with h;subst h;exact c8H
 ·injection h with h;subst h;exact c8I
 ·injection h with h;subst h;exact c8J
 ·injection h with h;subst h;exact c8K
 ·injection h with h;subst h;exact c8L
 ·injection h with h;subst h;exact c8M
 ·injection h with h;subst h;exact c8N
 ·injection h with h;subst h;exact c8O
 ·injection h with h;subst h;exact c8P
 ·injection h with h;subst h;exact c4q
 ·injection h with h;subst h;exact c6C
 ·injection h with h;subst h;exact c6D
 ·injection h with h;subst h;exact c6E
 ·injection h with h;subst h;exact c6F
 ·injection h with h;subst h;exact c6G
 ·injection h with h;subst h;exact c6H
 ·injection h with h;subst h;exact b9W
 ·injection h with h;subst h;exact a99
 ·injection h with h;subst h;exact c6I
 ·injection h with h;subst h;exact c6J
 ·injection h with h;subst h;exact c6K
 ·injection h with h;subst h;exact c6L
 ·injection h with h;subst h;exact c6M
 ·injection h with h;subst h;exact c6N
 ·injection h with h;subst h;exact c6O
 ·injection h with h;subst h;exact c6P
 ·injection h with h;subst h;exact c6Q
 ·injection h with h;subst h;exact c6R
 ·injection h with h;subst h;exact c6S
 ·injection h with h;subst h;exact c6T
 ·injection h with h;subst h;exact c6U
 ·injection h with h;subst h;exact c6V
 ·injection h with h;subst h;exact c6W
 ·injection h with h;subst h;exact c6X
 ·injection h with h;subst h;exact c6Y
 ·injection h with h;subst h;exact c6Z
 ·injection h with h;subst h;exact c60
 ·injection h with h;subst h;exact c61
 ·injection h with h;subst h;exact c62
 ·injection h with h;subst h;exact c63
 ·cases h
def Tc:TypeId->Option TI:=fun t=>(T t).map fun i=>{i with cut:=true}
theorem c8Q:∀ t i,Tc t=some i->TOk Tryz.prog t i:=by
 intro t i h
 unfold Tc at h
 cases e:T t with
 | none=>rw [e] at h;cases h
 | some j=>
  rw [e] at h
  injection h with h
  subst h
  have k:=W5 t j e
  exact⟨k.info,k.und,k.agg,k.cmp,k.fts⟩
end Go.Proofs.YtacnfjjkhpkloaaGreat.Am
