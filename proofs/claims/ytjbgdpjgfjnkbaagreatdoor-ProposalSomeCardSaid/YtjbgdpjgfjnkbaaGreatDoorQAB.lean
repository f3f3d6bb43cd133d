/- The types that the abstract machine reads. No conditions. -/
import Derived.Test.YtjbgdpjgfjnkbaaGreatDoorKD
import Derived.Test.YtjbgdpjgfjnkbaaGreatDoorProg
import Derived.KernelRfl
namespace Go.Proofs.YtjbgdpjgfjnkbaaGreatDoor.Am
open Go
set_option maxRecDepth 100000
def zs {α:Type} (n:Nat) (x:α) (l:List α):List α:=List.replicate n x ++ l
def ti3:TI:=⟨.int .i64,1,8,[.int .i64 0],[],false,[]⟩
def ti4:TI:=⟨.bool,1,1,[.bool false],[],false,[]⟩
def ti5:TI:=⟨.int .u8,1,1,[.int .u8 0],[],false,[]⟩
def ti9:TI:=⟨.str,1,16,[.string ⟨#[]⟩],[],false,[]⟩
def a1H:TI:=⟨.other,1,16,[.nilIface],[],false,[]⟩
def a1I:TI:=⟨.int .i32,1,4,[.int .i32 0],[],false,[]⟩
def a1J:TI:=⟨.slice 3,1,24,[.slice none 0 0],[],false,[]⟩
def a1K:TI:=⟨.int .u64,1,8,[.int .u64 0],[],false,[]⟩
def a1L:TI:=⟨.struct [(0,1),(1,1),(2,1),(3,1),(4,1),(5,1),(6,1),(7,1),(8,1),(9,1),(10,1),(11,1)],12,96,zs 6 (.int .i64 0) (.bool false :: .int .i64 0 :: .int .i64 0 :: .int .u64 0 :: .int .i64 0 :: .int .i64 0 :: []),zs 6 (.i .i64) (.b :: .i .i64 :: .i .i64 :: .i .u64 :: .i .i64 :: .i .i64 :: []),false,[]⟩
def a1M:TI:=⟨.slice 96,1,24,[.slice none 0 0],[],false,[]⟩
def a1N:TI:=⟨.struct [(0,1),(1,1)],2,32,[.slice none 0 0,.int .u64 0],[],false,[28,25]⟩
def a1O:TI:=⟨.struct [(0,2),(2,2),(4,2),(6,1),(7,1)],8,112,[.slice none 0 0,.int .u64 0,.slice none 0 0,.int .u64 0,.slice none 0 0,.int .u64 0,.bool false,.int .u64 0],[],false,[]⟩
def a1P:TI:=⟨.slice 67,1,24,[.slice none 0 0],[],false,[]⟩
def a1Q:TI:=⟨.slice 60,1,24,[.slice none 0 0],[],false,[]⟩
def a1R:TI:=⟨.struct [(0,12),(12,8),(20,1),(21,1),(22,1),(23,1),(24,1)],25,280,zs 6 (.int .i64 0) (.bool false :: .int .i64 0 :: .int .i64 0 :: .int .u64 0 :: .int .i64 0 :: .int .i64 0 :: .slice none 0 0 :: .int .u64 0 :: .slice none 0 0 :: .int .u64 0 :: .slice none 0 0 :: .int .u64 0 :: .bool false :: .int .u64 0 :: .int .i64 0 :: .int .i64 0 :: .int .i64 0 :: .slice none 0 0 :: .slice none 0 0 :: []),[],false,[]⟩
def a1S:TI:=⟨.ptr 168,1,8,[.pointer none],[],false,[]⟩
def a1T:TI:=⟨.arr 2 3,2,16,[.int .i64 0,.int .i64 0],[.i .i64,.i .i64],false,[]⟩
def a1U:TI:=⟨.slice 40,1,24,[.slice none 0 0],[],false,[]⟩
def a1V:TI:=⟨.slice 57,1,24,[.slice none 0 0],[],false,[]⟩
def a1W:TI:=⟨.slice 43,1,24,[.slice none 0 0],[],false,[]⟩
def a1X:TI:=⟨.int .i64,1,8,[.int .i64 0],[],false,[]⟩
def a1Y:TI:=⟨.slice 63,1,24,[.slice none 0 0],[],false,[]⟩
def a1Z:TI:=⟨.slice 5,1,24,[.slice none 0 0],[],false,[]⟩
def a10:TI:=⟨.arr 32 5,32,32,zs 32 (.int .u8 0) [],zs 32 (.i .u8) [],false,[]⟩
def a11:TI:=⟨.struct [(0,1),(1,1),(2,1),(3,1),(4,1)],5,48,[.int .i64 0,.string ⟨#[]⟩,.int .u64 0,.int .u64 0,.int .u64 0],[.i .i64,.s,.i .u64,.i .u64,.i .u64],false,[]⟩
def a12:TI:=⟨.struct [(0,32),(32,1),(33,1),(34,1),(35,1),(36,1),(37,1),(38,1),(39,1),(40,1)],41,144,zs 32 (.int .u8 0) (.slice none 0 0 :: .string ⟨#[]⟩ :: .int .u64 0 :: .int .u64 0 :: .int .u64 0 :: .int .i64 0 :: .int .i64 0 :: .int .i64 0 :: .slice none 0 0 :: []),[],false,[]⟩
def a13:TI:=⟨.struct [(0,1),(1,32),(33,1),(34,1),(35,1),(36,1),(37,1),(38,1),(39,1),(40,1),(41,32)],73,232,.int .i64 0 :: zs 32 (.int .u8 0) (.int .u64 0 :: zs 6 (.slice none 0 0) (.int .i64 0 :: zs 32 (.int .u8 0) [])),[],false,[]⟩
def a14:TI:=⟨.slice 22,1,24,[.slice none 0 0],[],false,[]⟩
def a15:TI:=⟨.struct [(0,1),(1,1),(2,1)],3,32,[.string ⟨#[]⟩,.int .u64 0,.int .u64 0],[.s,.i .u64,.i .u64],false,[]⟩
def XM:TI:=⟨.struct [(0,1),(1,1),(2,32),(34,32),(66,32)],98,112,.int .i64 0 :: .int .i64 0 :: zs 96 (.int .u8 0) [],.i .i64 :: .i .i64 :: zs 96 (.i .u8) [],false,[]⟩
def XN:TI:=⟨.slice 107,1,24,[.slice none 0 0],[],false,[]⟩
def XO:TI:=⟨.slice 34,1,24,[.slice none 0 0],[],false,[]⟩
def XP:TI:=⟨.struct [(0,1),(1,1),(2,1),(3,32),(35,32),(67,32),(99,32)],131,152,.int .i64 0 :: .int .i64 0 :: .int .i64 0 :: zs 128 (.int .u8 0) [],.i .i64 :: .i .i64 :: .i .i64 :: zs 128 (.i .u8) [],false,[]⟩
def XQ:TI:=⟨.struct [(0,131),(131,1)],132,176,.int .i64 0 :: .int .i64 0 :: .int .i64 0 :: zs 128 (.int .u8 0) (.slice none 0 0 :: []),[],false,[]⟩
def XR:TI:=⟨.struct [(0,25),(25,98),(123,1),(124,1),(125,1),(126,132),(258,1)],259,648,zs 6 (.int .i64 0) (.bool false :: .int .i64 0 :: .int .i64 0 :: .int .u64 0 :: .int .i64 0 :: .int .i64 0 :: .slice none 0 0 :: .int .u64 0 :: .slice none 0 0 :: .int .u64 0 :: .slice none 0 0 :: .int .u64 0 :: .bool false :: .int .u64 0 :: .int .i64 0 :: .int .i64 0 :: .int .i64 0 :: .slice none 0 0 :: .slice none 0 0 :: .int .i64 0 :: .int .i64 0 :: zs 96 (.int .u8 0) (.slice none 0 0 :: .slice none 0 0 :: .bool false :: .int .i64 0 :: .int .i64 0 :: .int .i64 0 :: zs 128 (.int .u8 0) (.slice none 0 0 :: .slice none 0 0 :: []))),[],false,[]⟩
def XS:TI:=⟨.slice 174,1,24,[.slice none 0 0],[],false,[]⟩
def XT:TI:=⟨.struct [(0,1),(1,1),(2,1)],3,24,[.int .i64 0,.int .u64 0,.bool false],[.i .i64,.i .u64,.b],false,[]⟩
def XU:TI:=⟨.slice 166,1,24,[.slice none 0 0],[],false,[]⟩
def XV:TI:=⟨.struct [(0,1),(1,1),(2,1),(3,1),(4,1),(5,1)],6,80,[.string ⟨#[]⟩,.int .u64 0,.int .u64 0,.int .u64 0,.string ⟨#[]⟩,.slice none 0 0],[],false,[]⟩
def XW:TI:=⟨.int .u32,1,4,[.int .u32 0],[],false,[]⟩
def XX:TI:=⟨.arr 8 128,8,32,zs 8 (.int .u32 0) [],zs 8 (.i .u32) [],false,[]⟩
def XY:TI:=⟨.struct [(0,1),(1,1)],2,24,[.string ⟨#[]⟩,.int .u64 0],[.s,.i .u64],false,[]⟩
def XZ:TI:=⟨.struct [(0,1),(1,1)],2,32,[.slice none 0 0,.int .i64 0],[],false,[]⟩
def Ya:TI:=⟨.struct [(0,1),(1,1),(2,1),(3,1),(4,1)],5,56,[.int .i64 0,.int .i64 0,.int .i64 0,.int .i64 0,.slice none 0 0],[],false,[]⟩
def Yb:TI:=⟨.other,1,8,[.nilFunc],[],false,[]⟩
def Yc:TI:=⟨.slice 25,1,24,[.slice none 0 0],[],false,[]⟩
def Yd:TI:=⟨.slice 240,1,24,[.slice none 0 0],[],false,[]⟩
def Ye:TI:=⟨.arr 64 128,64,256,zs 64 (.int .u32 0) [],zs 64 (.i .u32) [],false,[]⟩
def Yf:TI:=⟨.int .u64,1,8,[.int .u64 0],[],false,[]⟩
def Yg:TI:=⟨.slice 9,1,24,[.slice none 0 0],[],false,[]⟩
def Yh:TI:=⟨.struct [(0,1),(1,1),(2,1),(3,1)],4,48,[.int .i64 0,.int .i64 0,.int .u64 0,.slice none 0 0],[],false,[]⟩
def Yi:TI:=⟨.struct [(0,1)],1,24,[.slice none 0 0],[],false,[]⟩
def Yj:TI:=⟨.other,1,8,[.nilFunc],[],false,[]⟩
def Yk:TI:=⟨.map 9 285,1,8,[.map none],[],false,[]⟩
def Yl:TI:=⟨.struct [],0,0,[],[],false,[]⟩
def Ym:TI:=⟨.ptr 279,1,8,[.pointer none],[],false,[]⟩
def Yn:TI:=⟨.other,1,16,[.nilIface],[],false,[]⟩
def Yo:TI:=⟨.arr 4 60,128,128,zs 128 (.int .u8 0) [],zs 128 (.i .u8) [],false,[]⟩
def u3:U:= .int .i64
def u4:U:= .bool
def u5:U:= .byte
def u9:U:= .str
def u21:U:= .int .i32
def u22:U:= .sl u3
def u25:U:= .int .u64
def u27:U:= .pr u3 (.pr u3 (.pr u3 (.pr u3 (.pr u3 (.pr u3 (.pr u4 (.pr u3 (.pr u3 (.pr u25 (.pr u3 (u3)))))))))))
def u96:U:= .pr u9 (.pr u25 (u25))
def u28:U:= .sl u96
def u30:U:= .pr u28 (u25)
def u32:U:= .pr u30 (.pr u30 (.pr u30 (.pr u4 (u25))))
def u60:U:= .arr 32 u5
def u57:U:= .sl u5
def u67:U:= .pr u60 (.pr u57 (.pr u9 (.pr u25 (.pr u25 (.pr u25 (.pr u3 (.pr u3 (.pr u3 (u22)))))))))
def u33:U:= .sl u67
def u34:U:= .sl u60
def u36:U:= .pr u27 (.pr u32 (.pr u3 (.pr u3 (.pr u3 (.pr u33 (u34))))))
def u40:U:= .arr 2 u3
def u41:U:= .sl u40
def u43:U:= .sl u57
def u47:U:= .sl u43
def u49:U:= .int .i64
def u63:U:= .pr u49 (.pr u9 (.pr u25 (.pr u25 (u25))))
def u54:U:= .sl u63
def u81:U:= .pr u49 (.pr u60 (.pr u25 (.pr u34 (.pr u34 (.pr u34 (.pr u34 (.pr u34 (.pr u43 (.pr u3 (u60))))))))))
def u92:U:= .sl u22
def a16:U:= .pr u3 (.pr u3 (.pr u60 (.pr u60 (u60))))
def a17:U:= .pr u3 (.pr u3 (.pr u3 (.pr u60 (.pr u60 (.pr u60 (u60))))))
def a0K:U:= .pr a17 (u43)
def a18:U:= .sl a0K
def a19:U:= .sl u34
def a2v:U:= .pr u36 (.pr a16 (.pr a18 (.pr a19 (.pr u4 (.pr a0K (u57))))))
def a2a:U:= .pr u3 (.pr u3 (.pr u3 (.pr u3 (u57))))
def a2w:U:= .sl a2a
def a2x:U:= .pr u3 (.pr u25 (u4))
def a2b:U:= .pr u9 (u25)
def a2c:U:= .sl a2b
def a2y:U:= .pr u9 (.pr u25 (.pr u25 (.pr u25 (.pr u9 (a2c)))))
def a0L:U:= .int .u32
def a2z:U:= .arr 8 a0L
def a2A:U:= .pr u22 (u3)
def a2B:U:= .sl u25
def a2d:U:= .pr u3 (.pr u3 (.pr u25 (u57)))
def a2C:U:= .sl a2d
def a2D:U:= .arr 64 a0L
def a2E:U:= .int .u64
def a2F:U:= .sl u9
def a2G:U:=u57
def a2H:U:= .arr 0 .byte
def a2I:U:= .arr 4 u60
def TU:TypeId->Option U
 | 3=>some u3
 | 4=>some u4
 | 5=>some u5
 | 9=>some u9
 | 21=>some u21
 | 22=>some u22
 | 25=>some u25
 | 27=>some u27
 | 28=>some u28
 | 30=>some u30
 | 32=>some u32
 | 33=>some u33
 | 34=>some u34
 | 36=>some u36
 | 40=>some u40
 | 41=>some u41
 | 43=>some u43
 | 47=>some u47
 | 49=>some u49
 | 54=>some u54
 | 57=>some u57
 | 60=>some u60
 | 63=>some u63
 | 67=>some u67
 | 81=>some u81
 | 92=>some u92
 | 96=>some u96
 | 101=>some a16
 | 102=>some a18
 | 103=>some a19
 | 105=>some a17
 | 107=>some a0K
 | 109=>some a2v
 | 110=>some a2w
 | 115=>some a2x
 | 123=>some a2c
 | 125=>some a2y
 | 128=>some a0L
 | 129=>some a2z
 | 166=>some a2b
 | 168=>some a2A
 | 174=>some a2a
 | 185=>some a2B
 | 187=>some a2C
 | 194=>some a2D
 | 195=>some a2E
 | 215=>some a2F
 | 240=>some a2d
 | 279=>some a2G
 | 285=>some a2H
 | 315=>some a2I
 | _=>none
def T:TypeId->Option TI
 | 3=>some ti3
 | 4=>some ti4
 | 5=>some ti5
 | 9=>some ti9
 | 20=>some a1H
 | 21=>some a1I
 | 22=>some a1J
 | 25=>some a1K
 | 27=>some a1L
 | 28=>some a1M
 | 30=>some a1N
 | 32=>some a1O
 | 33=>some a1P
 | 34=>some a1Q
 | 36=>some a1R
 | 37=>some a1S
 | 40=>some a1T
 | 41=>some a1U
 | 43=>some a1V
 | 47=>some a1W
 | 49=>some a1X
 | 54=>some a1Y
 | 57=>some a1Z
 | 60=>some a10
 | 63=>some a11
 | 67=>some a12
 | 81=>some a13
 | 92=>some a14
 | 96=>some a15
 | 101=>some XM
 | 102=>some XN
 | 103=>some XO
 | 105=>some XP
 | 107=>some XQ
 | 109=>some XR
 | 110=>some XS
 | 115=>some XT
 | 123=>some XU
 | 125=>some XV
 | 128=>some XW
 | 129=>some XX
 | 166=>some XY
 | 168=>some XZ
 | 174=>some Ya
 | 182=>some Yb
 | 185=>some Yc
 | 187=>some Yd
 | 194=>some Ye
 | 195=>some Yf
 | 215=>some Yg
 | 240=>some Yh
 | 279=>some Yi
 | 283=>some Yj
 | 284=>some Yk
 | 285=>some Yl
 | 303=>some Ym
 | 308=>some Yn
 | 315=>some Yo
 | _=>none
theorem a2J:TOk Tryz.prog 3 ti3:=TOk.mk' (by kernel_rfl) rfl rfl ⟨_,Tryz.underlying3,rfl⟩
theorem a2K:TOk Tryz.prog 4 ti4:=TOk.mk' (by kernel_rfl) rfl rfl ⟨_,Tryz.underlying4,rfl⟩
theorem a2L:TOk Tryz.prog 5 ti5:=TOk.mk' (by kernel_rfl) rfl rfl ⟨_,Tryz.underlying5,rfl⟩
theorem a2M:TOk Tryz.prog 9 ti9:=TOk.mk' (by kernel_rfl) rfl rfl ⟨_,Tryz.underlying9,rfl⟩
theorem a0M:TOk Tryz.prog 20 a1H:=TOk.mk' (by kernel_rfl) rfl rfl ⟨_,Tryz.underlying20,rfl⟩
theorem a0N:TOk Tryz.prog 21 a1I:=TOk.mk' (by kernel_rfl) rfl rfl ⟨_,Tryz.underlying21,rfl⟩
theorem a0O:TOk Tryz.prog 22 a1J:=TOk.mk' (by kernel_rfl) rfl rfl ⟨_,Tryz.underlying22,rfl⟩
theorem a0P:TOk Tryz.prog 25 a1K:=TOk.mk' (by kernel_rfl) rfl rfl ⟨_,Tryz.underlying25,rfl⟩
theorem a0Q:TOk Tryz.prog 27 a1L:=TOk.mk' (by kernel_rfl) rfl rfl ⟨_,Tryz.underlying27,_,rfl,by kernel_rfl,by kernel_rfl⟩ (λ_=>⟨⟨20,by decide,by kernel_rfl⟩,by kernel_rfl⟩)
theorem a0R:TOk Tryz.prog 28 a1M:=TOk.mk' (by kernel_rfl) rfl rfl ⟨_,Tryz.underlying28,rfl⟩
theorem a0S:TOk Tryz.prog 30 a1N:=TOk.mk' (by kernel_rfl) rfl rfl ⟨_,Tryz.underlying30,_,rfl,by kernel_rfl,by kernel_rfl⟩ (fts:=λ_=>⟨_,Tryz.underlying30,by kernel_rfl⟩)
theorem a0T:TOk Tryz.prog 32 a1O:=TOk.mk' (by kernel_rfl) rfl rfl ⟨_,Tryz.underlying32,_,rfl,by kernel_rfl,by kernel_rfl⟩
theorem a0U:TOk Tryz.prog 33 a1P:=TOk.mk' (by kernel_rfl) rfl rfl ⟨_,Tryz.underlying33,rfl⟩
theorem a0V:TOk Tryz.prog 34 a1Q:=TOk.mk' (by kernel_rfl) rfl rfl ⟨_,Tryz.underlying34,rfl⟩
theorem a0W:TOk Tryz.prog 36 a1R:=TOk.mk' (by kernel_rfl) rfl rfl ⟨_,Tryz.underlying36,_,rfl,by kernel_rfl,by kernel_rfl⟩
theorem a0X:TOk Tryz.prog 37 a1S:=TOk.mk' (by kernel_rfl) rfl rfl ⟨_,Tryz.underlying37,rfl⟩
theorem a0Y:TOk Tryz.prog 40 a1T:=TOk.mk' (by kernel_rfl) rfl rfl ⟨_,Tryz.underlying40,rfl⟩ (λ_=>⟨⟨20,by decide,by kernel_rfl⟩,by kernel_rfl⟩)
theorem a0Z:TOk Tryz.prog 41 a1U:=TOk.mk' (by kernel_rfl) rfl rfl ⟨_,Tryz.underlying41,rfl⟩
theorem a00:TOk Tryz.prog 43 a1V:=TOk.mk' (by kernel_rfl) rfl rfl ⟨_,Tryz.underlying43,rfl⟩
theorem a01:TOk Tryz.prog 47 a1W:=TOk.mk' (by kernel_rfl) rfl rfl ⟨_,Tryz.underlying47,rfl⟩
theorem a02:TOk Tryz.prog 49 a1X:=TOk.mk' (by kernel_rfl) rfl rfl ⟨_,Tryz.underlying49,rfl⟩
theorem a03:TOk Tryz.prog 54 a1Y:=TOk.mk' (by kernel_rfl) rfl rfl ⟨_,Tryz.underlying54,rfl⟩
theorem a04:TOk Tryz.prog 57 a1Z:=TOk.mk' (by kernel_rfl) rfl rfl ⟨_,Tryz.underlying57,rfl⟩
theorem a05:TOk Tryz.prog 60 a10:=TOk.mk' (by kernel_rfl) rfl rfl ⟨_,Tryz.underlying60,rfl⟩ (λ_=>⟨⟨20,by decide,by kernel_rfl⟩,by kernel_rfl⟩)
theorem a06:TOk Tryz.prog 63 a11:=TOk.mk' (by kernel_rfl) rfl rfl ⟨_,Tryz.underlying63,_,rfl,by kernel_rfl,by kernel_rfl⟩ (λ_=>⟨⟨20,by decide,by kernel_rfl⟩,by kernel_rfl⟩)
theorem a07:TOk Tryz.prog 67 a12:=TOk.mk' (by kernel_rfl) rfl rfl ⟨_,Tryz.underlying67,_,rfl,by kernel_rfl,by kernel_rfl⟩
theorem a08:TOk Tryz.prog 81 a13:=TOk.mk' (by kernel_rfl) rfl rfl ⟨_,Tryz.underlying81,_,rfl,by kernel_rfl,by kernel_rfl⟩
theorem a09:TOk Tryz.prog 92 a14:=TOk.mk' (by kernel_rfl) rfl rfl ⟨_,Tryz.underlying92,rfl⟩
theorem Kr:TOk Tryz.prog 96 a15:=TOk.mk' (by kernel_rfl) rfl rfl ⟨_,Tryz.underlying96,_,rfl,by kernel_rfl,by kernel_rfl⟩ (λ_=>⟨⟨20,by decide,by kernel_rfl⟩,by kernel_rfl⟩)
theorem Yp:TOk Tryz.prog 101 XM:=TOk.mk' (by kernel_rfl) rfl rfl ⟨_,Tryz.underlying101,_,rfl,by kernel_rfl,by kernel_rfl⟩ (λ_=>⟨⟨20,by decide,by kernel_rfl⟩,by kernel_rfl⟩)
theorem Yq:TOk Tryz.prog 102 XN:=TOk.mk' (by kernel_rfl) rfl rfl ⟨_,Tryz.underlying102,rfl⟩
theorem Yr:TOk Tryz.prog 103 XO:=TOk.mk' (by kernel_rfl) rfl rfl ⟨_,Tryz.underlying103,rfl⟩
theorem Ys:TOk Tryz.prog 105 XP:=TOk.mk' (by kernel_rfl) rfl rfl ⟨_,Tryz.underlying105,_,rfl,by kernel_rfl,by kernel_rfl⟩ (λ_=>⟨⟨20,by decide,by kernel_rfl⟩,by kernel_rfl⟩)
theorem Yt:TOk Tryz.prog 107 XQ:=TOk.mk' (by kernel_rfl) rfl rfl ⟨_,Tryz.underlying107,_,rfl,by kernel_rfl,by kernel_rfl⟩
theorem Yu:TOk Tryz.prog 109 XR:=TOk.mk' (by kernel_rfl) rfl rfl ⟨_,Tryz.underlying109,_,rfl,by kernel_rfl,by kernel_rfl⟩
theorem Yv:TOk Tryz.prog 110 XS:=TOk.mk' (by kernel_rfl) rfl rfl ⟨_,Tryz.underlying110,rfl⟩
theorem Yw:TOk Tryz.prog 115 XT:=TOk.mk' (by kernel_rfl) rfl rfl ⟨_,Tryz.underlying115,_,rfl,by kernel_rfl,by kernel_rfl⟩ (λ_=>⟨⟨20,by decide,by kernel_rfl⟩,by kernel_rfl⟩)
theorem Yx:TOk Tryz.prog 123 XU:=TOk.mk' (by kernel_rfl) rfl rfl ⟨_,Tryz.underlying123,rfl⟩
theorem Yy:TOk Tryz.prog 125 XV:=TOk.mk' (by kernel_rfl) rfl rfl ⟨_,Tryz.underlying125,_,rfl,by kernel_rfl,by kernel_rfl⟩
theorem Yz:TOk Tryz.prog 128 XW:=TOk.mk' (by kernel_rfl) rfl rfl ⟨_,Tryz.underlying128,rfl⟩
theorem YA:TOk Tryz.prog 129 XX:=TOk.mk' (by kernel_rfl) rfl rfl ⟨_,Tryz.underlying129,rfl⟩ (λ_=>⟨⟨20,by decide,by kernel_rfl⟩,by kernel_rfl⟩)
theorem YB:TOk Tryz.prog 166 XY:=TOk.mk' (by kernel_rfl) rfl rfl ⟨_,Tryz.underlying166,_,rfl,by kernel_rfl,by kernel_rfl⟩ (λ_=>⟨⟨20,by decide,by kernel_rfl⟩,by kernel_rfl⟩)
theorem YC:TOk Tryz.prog 168 XZ:=TOk.mk' (by kernel_rfl) rfl rfl ⟨_,Tryz.underlying168,_,rfl,by kernel_rfl,by kernel_rfl⟩
theorem YD:TOk Tryz.prog 174 Ya:=TOk.mk' (by kernel_rfl) rfl rfl ⟨_,Tryz.underlying174,_,rfl,by kernel_rfl,by kernel_rfl⟩
theorem YE:TOk Tryz.prog 182 Yb:=TOk.mk' (by kernel_rfl) rfl rfl ⟨_,Tryz.underlying182,rfl⟩
theorem YF:TOk Tryz.prog 185 Yc:=TOk.mk' (by kernel_rfl) rfl rfl ⟨_,Tryz.underlying185,rfl⟩
theorem YG:TOk Tryz.prog 187 Yd:=TOk.mk' (by kernel_rfl) rfl rfl ⟨_,Tryz.underlying187,rfl⟩
theorem YH:TOk Tryz.prog 194 Ye:=TOk.mk' (by kernel_rfl) rfl rfl ⟨_,Tryz.underlying194,rfl⟩ (λ_=>⟨⟨20,by decide,by kernel_rfl⟩,by kernel_rfl⟩)
theorem YI:TOk Tryz.prog 195 Yf:=TOk.mk' (by kernel_rfl) rfl rfl ⟨_,Tryz.underlying195,rfl⟩
theorem YJ:TOk Tryz.prog 215 Yg:=TOk.mk' (by kernel_rfl) rfl rfl ⟨_,Tryz.underlying215,rfl⟩
theorem YK:TOk Tryz.prog 240 Yh:=TOk.mk' (by kernel_rfl) rfl rfl ⟨_,Tryz.underlying240,_,rfl,by kernel_rfl,by kernel_rfl⟩
theorem YL:TOk Tryz.prog 279 Yi:=TOk.mk' (by kernel_rfl) rfl rfl ⟨_,Tryz.underlying279,_,rfl,by kernel_rfl,by kernel_rfl⟩
theorem YM:TOk Tryz.prog 283 Yj:=TOk.mk' (by kernel_rfl) rfl rfl ⟨_,Tryz.underlying283,rfl⟩
theorem YN:TOk Tryz.prog 284 Yk:=TOk.mk' (by kernel_rfl) rfl rfl ⟨_,Tryz.underlying284,rfl⟩
theorem YO:TOk Tryz.prog 285 Yl:=TOk.mk' (by kernel_rfl) rfl rfl ⟨_,Tryz.underlying285,_,rfl,by kernel_rfl,by kernel_rfl⟩
theorem YP:TOk Tryz.prog 303 Ym:=TOk.mk' (by kernel_rfl) rfl rfl ⟨_,Tryz.underlying303,rfl⟩
theorem YQ:TOk Tryz.prog 308 Yn:=TOk.mk' (by kernel_rfl) rfl rfl ⟨_,Tryz.underlying308,rfl⟩
theorem YR:TOk Tryz.prog 315 Yo:=TOk.mk' (by kernel_rfl) rfl rfl ⟨_,Tryz.underlying315,rfl⟩ (λ_=>⟨⟨20,by decide,by kernel_rfl⟩,by kernel_rfl⟩)
theorem H9:∀ t i,T t=some i->TOk Tryz.prog t i:=by
 intro t i h;unfold T at h;split at h
 ·injection h with h;subst h;exact a2J
 ·injection h with h;subst h;exact a2K
 ·injection h with h;subst h;exact a2L
 ·injection h with h;subst h;exact a2M
 ·injection h with h;subst h;exact a0M
 ·injection h with h;subst h;exact a0N
 ·injection h with h;subst h;exact a0O
 ·injection h with h;subst h;exact a0P
 ·injection h with h;subst h;exact a0Q
 ·injection h with h;subst h;exact a0R
 ·injection h with h;subst h;exact a0S
 ·injection h with h;subst h;exact a0T
 ·injection h with h;subst h;exact a0U
 ·injection h with h;subst h;exact a0V
 ·injection h with h;subst h;exact a0W
 ·injection h with h;subst h;exact a0X
 ·injection h with h;subst h;exact a0Y
 ·injection h with h;subst h;exact a0Z
 ·injection h with h;subst h;exact a00
 ·injection h with h;subst h;exact a01
 ·injection h with h;subst h;exact a02
 ·injection h with h;subst h;exact a03
 ·injection h with h;subst h;exact a04
 ·injection h with h;subst h;exact a05
 ·injection h with h;subst h;exact a06
 ·injection h with h;subst h;exact a07
 ·injection h with h;subst h;exact a08
 ·injection h with h;subst h;exact a09
 ·injection h with h;subst h;exact Kr
 ·injection h with h;subst h;exact Yp
 ·injection h with h;subst h;exact Yq
 ·injection h with h;subst h;exact Yr
 ·injection h with h;subst h;exact Ys
 ·injection h with h;subst h;exact Yt
 ·injection h with h;subst h;exact Yu
 ·injection h with h;subst h;exact Yv
 ·injection h with h;subst h;exact Yw
 ·injection h with h;subst h;exact Yx
 ·injection h with h;subst h;exact Yy
 ·injection h with h;subst h;exact Yz
 ·injection h with h;subst h;exact YA
 ·injection h with h;subst h;exact YB
 ·injection h with h;subst h;exact YC
 ·injection h with h;subst h;exact YD
 ·injection h with h;subst h;exact YE
 ·injection h with h;subst h;exact YF
 ·injection h with h;subst h;exact YG
 ·injection h with h;subst h;exact YH
 ·injection h with h;subst h;exact YI
 ·injection h with h;subst h;exact YJ
 ·injection h with h;subst h;exact YK
 ·injection h with h;subst h;exact YL
 ·injection h with h;subst h;exact YM
 ·injection h with h;subst h;exact YN
 ·injection h with h;subst h;exact YO
 ·injection h with h;subst h;exact YP
 ·injection h with h;subst h;exact YQ
 ·injection h with h;subst h;exact YR
 ·cases h
def Tc:TypeId->Option TI:=λt=>(T t).map λi=>{i with cut:=true}
theorem a1a:∀ t i,Tc t=some i->TOk Tryz.prog t i:=by
 intro t i h;unfold Tc at h;cases e:T t with
 | none=>rw [e] at h;cases h
 | some j=>
  rw [e] at h;injection h with h;subst h;have k:=H9 t j e;exact⟨k.info,k.und,k.agg,k.cmp,k.fts⟩
end Go.Proofs.YtjbgdpjgfjnkbaaGreatDoor.Am
