/- Texts laid together: AmTab, HeapCmp, InsPl, DelPl, SendL, FFind, FFindOk, SendA, SendB. No conditions. -/
import Derived.KernelRfl
import Derived.Test.YthkhcbphbabefaaGreatQAB
import Derived.Shelf.Spec.SlicesInsertGrow
import Derived.Laws.IdiomCopy
import Derived.Laws.CopyRow
import Derived.Maps.RangeWalk
import Derived.Deep.RegionLaw
import Derived.Deep.RegionHeld3
namespace Go.Proofs.YthkhcbphbabefaaGreat.Am
open Go
set_option maxRecDepth 100000
def zs{α:Type}(n:Nat) (x:α) (l:List α):List α:=List.replicate n x++l
def ti3:TI:=⟨.int .i64,1,8,[.int .i64 0],[],false,[]⟩
def ti4:TI:=⟨.bool,1,1,[.bool false],[],false,[]⟩
def ti5:TI:=⟨.int .u8,1,1,[.int .u8 0],[],false,[]⟩
def ti9:TI:=⟨.str,1,16,[.string ⟨#[]⟩],[],false,[]⟩
def Od:TI:=⟨.slice 3,1,24,[.slice none 0 0],[],false,[]⟩
def Oe:TI:=⟨.ptr 67,1,8,[.pointer none],[],false,[]⟩
def Of:TI:=⟨.int .u64,1,8,[.int .u64 0],[],false,[]⟩
def Og:TI:=⟨.struct [(0,1),(1,1),(2,1),(3,1),(4,1),(5,1),(6,1),(7,1),(8,1),(9,1),(10,1),(11,1)],12,96,zs 6 (.int .i64 0) (.bool false :: .int .i64 0 :: .int .i64 0 :: .int .u64 0 :: .int .i64 0 :: .int .i64 0::[]),zs 6 (.i .i64) (.b :: .i .i64 :: .i .i64 :: .i .u64 :: .i .i64 :: .i .i64::[]),false,[]⟩
def Oh:TI:=⟨.arr 32 5,32,32,zs 32 (.int .u8 0) [],zs 32 (.i .u8) [],false,[]⟩
def Oi:TI:=⟨.slice 5,1,24,[.slice none 0 0],[],false,[]⟩
def Oj:TI:=⟨.struct [(0,32),(32,1),(33,1),(34,1),(35,1),(36,1),(37,1),(38,1),(39,1),(40,1)],41,144,zs 32 (.int .u8 0) (.slice none 0 0 :: .string ⟨#[]⟩ :: .int .u64 0 :: .int .u64 0 :: .int .u64 0 :: .int .i64 0 :: .int .i64 0 :: .int .i64 0 :: .slice none 0 0::[]),[],false,[]⟩
def Ol:TI:=⟨.ptr 72,1,8,[.pointer none],[],false,[]⟩
def Om:TI:=⟨.int .i64,1,8,[.int .i64 0],[],false,[]⟩
def MD:TI:=⟨.slice 35,1,24,[.slice none 0 0],[],false,[]⟩
def On:TI:=⟨.slice 41,1,24,[.slice none 0 0],[],false,[]⟩
def Oo:TI:=⟨.slice 32,1,24,[.slice none 0 0],[],false,[]⟩
def Oq:TI:=⟨.slice 22,1,24,[.slice none 0 0],[],false,[]⟩
def Ot:TI:=⟨.ptr 111,1,8,[.pointer none],[],false,[]⟩
def Ou:TI:=⟨.ptr 114,1,8,[.pointer none],[],false,[]⟩
def Ov:TI:=⟨.ptr 117,1,8,[.pointer none],[],false,[]⟩
def Ow:TI:=⟨.ptr 120,1,8,[.pointer none],[],false,[]⟩
def Ox:TI:=⟨.map 3 76,1,8,[.map none],[],false,[]⟩
def Oy:TI:=⟨.map 32 3,1,8,[.map none],[],false,[]⟩
def Oz:TI:=⟨.struct [(0,12),(12,1),(13,1),(14,1),(15,1),(16,1),(17,1),(18,1)],19,152,zs 6 (.int .i64 0) (.bool false :: .int .i64 0 :: .int .i64 0 :: .int .u64 0 :: .int .i64 0 :: .int .i64 0 :: .pointer none :: .pointer none :: .pointer none :: .pointer none :: .map none :: .map none :: .int .i64 0::[]),[],false,[]⟩
def OB:TI:=⟨.struct [(0,1),(1,1)],2,32,[.slice none 0 0,.int .i64 0],[],false,[]⟩
def OD:TI:=⟨.struct [(0,1),(1,1)],2,16,[.int .i64 0,.int .i64 0],[.i .i64,.i .i64],false,[]⟩
def OE:TI:=⟨.struct [(0,1),(1,1),(2,1)],3,24,[.int .i64 0,.int .u64 0,.int .i64 0],[.i .i64,.i .u64,.i .i64],false,[]⟩
def OF:TI:=⟨.other,1,8,[.nilFunc],[],false,[]⟩
def OG:TI:=⟨.slice 82,1,24,[.slice none 0 0],[],false,[]⟩
def OH:TI:=⟨.other,1,8,[.nilFunc],[],false,[]⟩
def OI:TI:=⟨.struct [(0,1),(1,1)],2,16,[.int .u64 0,.bool false],[.i .u64,.b],false,[]⟩
def JD:TI:=⟨.struct [(0,1),(1,2),(3,2),(5,2)],7,64,[.string ⟨#[]⟩,.int .u64 0,.bool false,.int .u64 0,.bool false,.int .u64 0,.bool false],[.s,.i .u64,.b,.i .u64,.b,.i .u64,.b],false,[]⟩
def JE:TI:=⟨.arr 12 101,84,768,[.string ⟨#[]⟩,.int .u64 0,.bool false,.int .u64 0,.bool false,.int .u64 0,.bool false,.string ⟨#[]⟩,.int .u64 0,.bool false,.int .u64 0,.bool false,.int .u64 0,.bool false,.string ⟨#[]⟩,.int .u64 0,.bool false,.int .u64 0,.bool false,.int .u64 0,.bool false,.string ⟨#[]⟩,.int .u64 0,.bool false,.int .u64 0,.bool false,.int .u64 0,.bool false,.string ⟨#[]⟩,.int .u64 0,.bool false,.int .u64 0,.bool false,.int .u64 0,.bool false,.string ⟨#[]⟩,.int .u64 0,.bool false,.int .u64 0,.bool false,.int .u64 0,.bool false,.string ⟨#[]⟩,.int .u64 0,.bool false,.int .u64 0,.bool false,.int .u64 0,.bool false,.string ⟨#[]⟩,.int .u64 0,.bool false,.int .u64 0,.bool false,.int .u64 0,.bool false,.string ⟨#[]⟩,.int .u64 0,.bool false,.int .u64 0,.bool false,.int .u64 0,.bool false,.string ⟨#[]⟩,.int .u64 0,.bool false,.int .u64 0,.bool false,.int .u64 0,.bool false,.string ⟨#[]⟩,.int .u64 0,.bool false,.int .u64 0,.bool false,.int .u64 0,.bool false,.string ⟨#[]⟩,.int .u64 0,.bool false,.int .u64 0,.bool false,.int .u64 0,.bool false],[.s,.i .u64,.b,.i .u64,.b,.i .u64,.b,.s,.i .u64,.b,.i .u64,.b,.i .u64,.b,.s,.i .u64,.b,.i .u64,.b,.i .u64,.b,.s,.i .u64,.b,.i .u64,.b,.i .u64,.b,.s,.i .u64,.b,.i .u64,.b,.i .u64,.b,.s,.i .u64,.b,.i .u64,.b,.i .u64,.b,.s,.i .u64,.b,.i .u64,.b,.i .u64,.b,.s,.i .u64,.b,.i .u64,.b,.i .u64,.b,.s,.i .u64,.b,.i .u64,.b,.i .u64,.b,.s,.i .u64,.b,.i .u64,.b,.i .u64,.b,.s,.i .u64,.b,.i .u64,.b,.i .u64,.b,.s,.i .u64,.b,.i .u64,.b,.i .u64,.b],false,[]⟩
def JF:TI:=⟨.ptr 29,1,8,[.pointer none],[],false,[]⟩
def JG:TI:=⟨.slice 132,1,24,[.slice none 0 0],[],false,[]⟩
def JH:TI:=⟨.struct [(0,1),(1,1),(2,1),(3,1)],4,48,[.int .i64 0,.int .i64 0,.slice none 0 0,.int .i64 0],[],false,[]⟩
def JI:TI:=⟨.map 3 3,1,8,[.map none],[],false,[]⟩
def JJ:TI:=⟨.struct [(0,1),(1,1)],2,32,[.slice none 0 0,.map none],[],false,[]⟩
def JK:TI:=⟨.map 9 127,1,8,[.map none],[],false,[]⟩
def JL:TI:=⟨.struct [(0,1),(1,1)],2,16,[.map none,.int .i64 0],[],false,[]⟩
def JM:TI:=⟨.map 3 137,1,8,[.map none],[],false,[]⟩
def JN:TI:=⟨.struct [(0,1),(1,1),(2,1)],3,24,[.int .i64 0,.int .i64 0,.map none],[],false,[]⟩
def JO:TI:=⟨.int .u32,1,4,[.int .u32 0],[],false,[]⟩
def JP:TI:=⟨.arr 8 122,8,32,zs 8 (.int .u32 0) [],zs 8 (.i .u32) [],false,[]⟩
def JQ:TI:=⟨.slice 9,1,24,[.slice none 0 0],[],false,[]⟩
def JR:TI:=⟨.slice 130,1,24,[.slice none 0 0],[],false,[]⟩
def JS:TI:=⟨.struct [(0,1),(1,1)],2,16,[.int .u64 0,.int .i64 0],[.i .u64,.i .i64],false,[]⟩
def JT:TI:=⟨.struct [(0,41),(41,1),(42,1),(43,1)],44,168,zs 32 (.int .u8 0) (.slice none 0 0 :: .string ⟨#[]⟩ :: .int .u64 0 :: .int .u64 0 :: .int .u64 0 :: .int .i64 0 :: .int .i64 0 :: .int .i64 0 :: .slice none 0 0 :: .int .i64 0 :: .bool false :: .int .i64 0::[]),[],false,[]⟩
def JU:TI:=⟨.struct [(0,1),(1,1)],2,16,[.int .i64 0,.int .i64 0],[.i .i64,.i .i64],false,[]⟩
def JV:TI:=⟨.other,1,8,[.nilFunc],[],false,[]⟩
def JW:TI:=⟨.ptr 3,1,8,[.pointer none],[],false,[]⟩
def JX:TI:=⟨.arr 12 148,12,96,zs 12 (.pointer none) [],[],false,[]⟩
def JY:TI:=⟨.arr 64 122,64,256,zs 64 (.int .u32 0) [],zs 64 (.i .u32) [],false,[]⟩
def JZ:TI:=⟨.int .u64,1,8,[.int .u64 0],[],false,[]⟩
def Ka:TI:=⟨.other,1,8,[.nilFunc],[],false,[]⟩
def Kb:TI:=⟨.int .i64,1,8,[.int .i64 0],[],false,[]⟩
def Kc:TI:=⟨.arr 2 3,2,16,[.int .i64 0,.int .i64 0],[.i .i64,.i .i64],false,[]⟩
def Kd:TI:=⟨.int .u64,1,8,[.int .u64 0],[],false,[]⟩
def Ke:TI:=⟨.ptr 186,1,8,[.pointer none],[],false,[]⟩
def u3:U:=.int .i64
def u4:U:=.bool
def u5:U:=.byte
def u9:U:=.str
def u22:U:=.sl u3
def u27:U:=.int .u64
def u29:U:=.pr u3 (.pr u3 (.pr u3 (.pr u3 (.pr u3 (.pr u3 (.pr u4 (.pr u3 (.pr u3 (.pr u27 (.pr u3 (u3)))))))))))
def u32:U:=.arr 32 u5
def u33:U:=.sl u5
def u35:U:=.pr u32 (.pr u33 (.pr u9 (.pr u27 (.pr u27 (.pr u27 (.pr u3 (.pr u3 (.pr u3 (u22)))))))))
def u39:U:=.int .i64
def u41:U:=.sl u35
def u44:U:=.sl u41
def u49:U:=.sl u32
def u53:U:=.sl u22
def u76:U:=.pr u3 (u3)
def u72:U:=.pr u22 (u3)
def u82:U:=.pr u3 (.pr u27 (u3))
def u89:U:=.sl u82
def u99:U:=.pr u27 (u4)
def OJ:U:=.pr u9 (.pr u99 (.pr u99 (u99)))
def Pb:U:=.arr 12 OJ
def OK:U:=.pr u35 (.pr u3 (.pr u4 (u3)))
def OL:U:=.sl OK
def Pe:U:=.pr u3 (.pr u3 (.pr OL (u3)))
def OM:U:=.pr u27 (u3)
def Pg:U:=.sl OM
def Ph:U:=.pr u3 (u3)
def MF:U:=.int .u32
def Pi:U:=.arr 8 MF
def Pj:U:=.sl u9
def Pm:U:=.arr 64 MF
def Pn:U:=.int .u64
def Po:U:=.int .i64
def Pp:U:=.arr 2 u3
def Pq:U:=.int .u64
def TU:TypeId->Option U
 |3=>some u3
 |4=>some u4
 |5=>some u5
 |9=>some u9
 |22=>some u22
 |27=>some u27
 |29=>some u29
 |32=>some u32
 |33=>some u33
 |35=>some u35
 |39=>some u39
 |41=>some u41
 |44=>some u44
 |49=>some u49
 |53=>some u53
 |72=>some u72
 |76=>some u76
 |82=>some u82
 |89=>some u89
 |99=>some u99
 |101=>some OJ
 |102=>some Pb
 |109=>some OL
 |111=>some Pe
 |122=>some MF
 |123=>some Pi
 |125=>some Pj
 |127=>some Pg
 |130=>some OM
 |132=>some OK
 |137=>some Ph
 |152=>some Pm
 |153=>some Pn
 |170=>some Po
 |184=>some Pp
 |186=>some Pq
 |_=>none
def T:TypeId->Option TI
 |3=>some ti3
 |4=>some ti4
 |5=>some ti5
 |9=>some ti9
 |22=>some Od
 |25=>some Oe
 |27=>some Of
 |29=>some Og
 |32=>some Oh
 |33=>some Oi
 |35=>some Oj
 |37=>some Ol
 |39=>some Om
 |41=>some MD
 |44=>some On
 |49=>some Oo
 |53=>some Oq
 |56=>some Ot
 |58=>some Ou
 |60=>some Ov
 |62=>some Ow
 |64=>some Ox
 |65=>some Oy
 |67=>some Oz
 |72=>some OB
 |76=>some OD
 |82=>some OE
 |87=>some OF
 |89=>some OG
 |96=>some OH
 |99=>some OI
 |101=>some JD
 |102=>some JE
 |108=>some JF
 |109=>some JG
 |111=>some JH
 |112=>some JI
 |114=>some JJ
 |115=>some JK
 |117=>some JL
 |118=>some JM
 |120=>some JN
 |122=>some JO
 |123=>some JP
 |125=>some JQ
 |127=>some JR
 |130=>some JS
 |132=>some JT
 |137=>some JU
 |144=>some JV
 |148=>some JW
 |149=>some JX
 |152=>some JY
 |153=>some JZ
 |157=>some Ka
 |170=>some Kb
 |184=>some Kc
 |186=>some Kd
 |193=>some Ke
 |_=>none
theorem Pr:TOk Tryz.prog 3 ti3:=TOk.mk' (by kernel_rfl) rfl rfl ⟨_,Tryz.underlying3,rfl⟩
theorem Ps:TOk Tryz.prog 4 ti4:=TOk.mk' (by kernel_rfl) rfl rfl ⟨_,Tryz.underlying4,rfl⟩
theorem Pt:TOk Tryz.prog 5 ti5:=TOk.mk' (by kernel_rfl) rfl rfl ⟨_,Tryz.underlying5,rfl⟩
theorem Lz:TOk Tryz.prog 9 ti9:=TOk.mk' (by kernel_rfl) rfl rfl ⟨_,Tryz.underlying9,rfl⟩
theorem MG:TOk Tryz.prog 22 Od:=TOk.mk' (by kernel_rfl) rfl rfl ⟨_,Tryz.underlying22,rfl⟩
theorem MH:TOk Tryz.prog 25 Oe:=TOk.mk' (by kernel_rfl) rfl rfl ⟨_,Tryz.underlying25,rfl⟩
theorem MI:TOk Tryz.prog 27 Of:=TOk.mk' (by kernel_rfl) rfl rfl ⟨_,Tryz.underlying27,rfl⟩
theorem MJ:TOk Tryz.prog 29 Og:=TOk.mk' (by kernel_rfl) rfl rfl ⟨_,Tryz.underlying29,_,rfl,by kernel_rfl,by kernel_rfl⟩ (λ_=>⟨⟨20,by decide,by kernel_rfl⟩,by kernel_rfl⟩)
theorem MK:TOk Tryz.prog 32 Oh:=TOk.mk' (by kernel_rfl) rfl rfl ⟨_,Tryz.underlying32,rfl⟩ (λ_=>⟨⟨20,by decide,by kernel_rfl⟩,by kernel_rfl⟩)
theorem ML:TOk Tryz.prog 33 Oi:=TOk.mk' (by kernel_rfl) rfl rfl ⟨_,Tryz.underlying33,rfl⟩
theorem MM:TOk Tryz.prog 35 Oj:=TOk.mk' (by kernel_rfl) rfl rfl ⟨_,Tryz.underlying35,_,rfl,by kernel_rfl,by kernel_rfl⟩
theorem MN:TOk Tryz.prog 37 Ol:=TOk.mk' (by kernel_rfl) rfl rfl ⟨_,Tryz.underlying37,rfl⟩
theorem MO:TOk Tryz.prog 39 Om:=TOk.mk' (by kernel_rfl) rfl rfl ⟨_,Tryz.underlying39,rfl⟩
theorem MP:TOk Tryz.prog 41 MD:=TOk.mk' (by kernel_rfl) rfl rfl ⟨_,Tryz.underlying41,rfl⟩
theorem MQ:TOk Tryz.prog 44 On:=TOk.mk' (by kernel_rfl) rfl rfl ⟨_,Tryz.underlying44,rfl⟩
theorem MR:TOk Tryz.prog 49 Oo:=TOk.mk' (by kernel_rfl) rfl rfl ⟨_,Tryz.underlying49,rfl⟩
theorem MS:TOk Tryz.prog 53 Oq:=TOk.mk' (by kernel_rfl) rfl rfl ⟨_,Tryz.underlying53,rfl⟩
theorem MT:TOk Tryz.prog 56 Ot:=TOk.mk' (by kernel_rfl) rfl rfl ⟨_,Tryz.underlying56,rfl⟩
theorem MU:TOk Tryz.prog 58 Ou:=TOk.mk' (by kernel_rfl) rfl rfl ⟨_,Tryz.underlying58,rfl⟩
theorem MV:TOk Tryz.prog 60 Ov:=TOk.mk' (by kernel_rfl) rfl rfl ⟨_,Tryz.underlying60,rfl⟩
theorem MW:TOk Tryz.prog 62 Ow:=TOk.mk' (by kernel_rfl) rfl rfl ⟨_,Tryz.underlying62,rfl⟩
theorem MX:TOk Tryz.prog 64 Ox:=TOk.mk' (by kernel_rfl) rfl rfl ⟨_,Tryz.underlying64,rfl⟩
theorem MY:TOk Tryz.prog 65 Oy:=TOk.mk' (by kernel_rfl) rfl rfl ⟨_,Tryz.underlying65,rfl⟩
theorem MZ:TOk Tryz.prog 67 Oz:=TOk.mk' (by kernel_rfl) rfl rfl ⟨_,Tryz.underlying67,_,rfl,by kernel_rfl,by kernel_rfl⟩
theorem Na:TOk Tryz.prog 72 OB:=TOk.mk' (by kernel_rfl) rfl rfl ⟨_,Tryz.underlying72,_,rfl,by kernel_rfl,by kernel_rfl⟩
theorem Nb:TOk Tryz.prog 76 OD:=TOk.mk' (by kernel_rfl) rfl rfl ⟨_,Tryz.underlying76,_,rfl,by kernel_rfl,by kernel_rfl⟩ (λ_=>⟨⟨20,by decide,by kernel_rfl⟩,by kernel_rfl⟩)
theorem Hk:TOk Tryz.prog 82 OE:=TOk.mk' (by kernel_rfl) rfl rfl ⟨_,Tryz.underlying82,_,rfl,by kernel_rfl,by kernel_rfl⟩ (λ_=>⟨⟨20,by decide,by kernel_rfl⟩,by kernel_rfl⟩)
theorem Nc:TOk Tryz.prog 87 OF:=TOk.mk' (by kernel_rfl) rfl rfl ⟨_,Tryz.underlying87,rfl⟩
theorem Nd:TOk Tryz.prog 89 OG:=TOk.mk' (by kernel_rfl) rfl rfl ⟨_,Tryz.underlying89,rfl⟩
theorem Nf:TOk Tryz.prog 96 OH:=TOk.mk' (by kernel_rfl) rfl rfl ⟨_,Tryz.underlying96,rfl⟩
theorem Ng:TOk Tryz.prog 99 OI:=TOk.mk' (by kernel_rfl) rfl rfl ⟨_,Tryz.underlying99,_,rfl,by kernel_rfl,by kernel_rfl⟩ (λ_=>⟨⟨20,by decide,by kernel_rfl⟩,by kernel_rfl⟩)
theorem Kf:TOk Tryz.prog 101 JD:=TOk.mk' (by kernel_rfl) rfl rfl ⟨_,Tryz.underlying101,_,rfl,by kernel_rfl,by kernel_rfl⟩ (λ_=>⟨⟨20,by decide,by kernel_rfl⟩,by kernel_rfl⟩)
theorem Kg:TOk Tryz.prog 102 JE:=TOk.mk' (by kernel_rfl) rfl rfl ⟨_,Tryz.underlying102,rfl⟩ (λ_=>⟨⟨20,by decide,by kernel_rfl⟩,by kernel_rfl⟩)
theorem Kh:TOk Tryz.prog 108 JF:=TOk.mk' (by kernel_rfl) rfl rfl ⟨_,Tryz.underlying108,rfl⟩
theorem Ki:TOk Tryz.prog 109 JG:=TOk.mk' (by kernel_rfl) rfl rfl ⟨_,Tryz.underlying109,rfl⟩
theorem Kj:TOk Tryz.prog 111 JH:=TOk.mk' (by kernel_rfl) rfl rfl ⟨_,Tryz.underlying111,_,rfl,by kernel_rfl,by kernel_rfl⟩
theorem Kk:TOk Tryz.prog 112 JI:=TOk.mk' (by kernel_rfl) rfl rfl ⟨_,Tryz.underlying112,rfl⟩
theorem Kl:TOk Tryz.prog 114 JJ:=TOk.mk' (by kernel_rfl) rfl rfl ⟨_,Tryz.underlying114,_,rfl,by kernel_rfl,by kernel_rfl⟩
theorem Km:TOk Tryz.prog 115 JK:=TOk.mk' (by kernel_rfl) rfl rfl ⟨_,Tryz.underlying115,rfl⟩
theorem Kn:TOk Tryz.prog 117 JL:=TOk.mk' (by kernel_rfl) rfl rfl ⟨_,Tryz.underlying117,_,rfl,by kernel_rfl,by kernel_rfl⟩
theorem Ko:TOk Tryz.prog 118 JM:=TOk.mk' (by kernel_rfl) rfl rfl ⟨_,Tryz.underlying118,rfl⟩
theorem Kp:TOk Tryz.prog 120 JN:=TOk.mk' (by kernel_rfl) rfl rfl ⟨_,Tryz.underlying120,_,rfl,by kernel_rfl,by kernel_rfl⟩
theorem Kq:TOk Tryz.prog 122 JO:=TOk.mk' (by kernel_rfl) rfl rfl ⟨_,Tryz.underlying122,rfl⟩
theorem Kr:TOk Tryz.prog 123 JP:=TOk.mk' (by kernel_rfl) rfl rfl ⟨_,Tryz.underlying123,rfl⟩ (λ_=>⟨⟨20,by decide,by kernel_rfl⟩,by kernel_rfl⟩)
theorem Ks:TOk Tryz.prog 125 JQ:=TOk.mk' (by kernel_rfl) rfl rfl ⟨_,Tryz.underlying125,rfl⟩
theorem AB:TOk Tryz.prog 127 JR:=TOk.mk' (by kernel_rfl) rfl rfl ⟨_,Tryz.underlying127,rfl⟩
theorem mf:TOk Tryz.prog 130 JS:=TOk.mk' (by kernel_rfl) rfl rfl ⟨_,Tryz.underlying130,_,rfl,by kernel_rfl,by kernel_rfl⟩ (λ_=>⟨⟨20,by decide,by kernel_rfl⟩,by kernel_rfl⟩)
theorem Kt:TOk Tryz.prog 132 JT:=TOk.mk' (by kernel_rfl) rfl rfl ⟨_,Tryz.underlying132,_,rfl,by kernel_rfl,by kernel_rfl⟩
theorem Ku:TOk Tryz.prog 137 JU:=TOk.mk' (by kernel_rfl) rfl rfl ⟨_,Tryz.underlying137,_,rfl,by kernel_rfl,by kernel_rfl⟩ (λ_=>⟨⟨20,by decide,by kernel_rfl⟩,by kernel_rfl⟩)
theorem Kv:TOk Tryz.prog 144 JV:=TOk.mk' (by kernel_rfl) rfl rfl ⟨_,Tryz.underlying144,rfl⟩
theorem Kw:TOk Tryz.prog 148 JW:=TOk.mk' (by kernel_rfl) rfl rfl ⟨_,Tryz.underlying148,rfl⟩
theorem Kx:TOk Tryz.prog 149 JX:=TOk.mk' (by kernel_rfl) rfl rfl ⟨_,Tryz.underlying149,rfl⟩
theorem Ky:TOk Tryz.prog 152 JY:=TOk.mk' (by kernel_rfl) rfl rfl ⟨_,Tryz.underlying152,rfl⟩ (λ_=>⟨⟨20,by decide,by kernel_rfl⟩,by kernel_rfl⟩)
theorem Kz:TOk Tryz.prog 153 JZ:=TOk.mk' (by kernel_rfl) rfl rfl ⟨_,Tryz.underlying153,rfl⟩
theorem KB:TOk Tryz.prog 157 Ka:=TOk.mk' (by kernel_rfl) rfl rfl ⟨_,Tryz.underlying157,rfl⟩
theorem KC:TOk Tryz.prog 170 Kb:=TOk.mk' (by kernel_rfl) rfl rfl ⟨_,Tryz.underlying170,rfl⟩
theorem KE:TOk Tryz.prog 184 Kc:=TOk.mk' (by kernel_rfl) rfl rfl ⟨_,Tryz.underlying184,rfl⟩ (λ_=>⟨⟨20,by decide,by kernel_rfl⟩,by kernel_rfl⟩)
theorem KF:TOk Tryz.prog 186 Kd:=TOk.mk' (by kernel_rfl) rfl rfl ⟨_,Tryz.underlying186,rfl⟩
theorem KG:TOk Tryz.prog 193 Ke:=TOk.mk' (by kernel_rfl) rfl rfl ⟨_,Tryz.underlying193,rfl⟩
theorem K7:∀t i,T t=some i->TOk Tryz.prog t i:=by
 intro t i h;unfold T at h;split at h
 ·injection h with h;subst h;exact Pr
 ·injection h with h;subst h;exact Ps
 ·injection h with h;subst h;exact Pt
 ·injection h with h;subst h;exact Lz
 ·injection h with h;subst h;exact MG
 ·injection h with h;subst h;exact MH
 ·injection h with h;subst h;exact MI
 ·injection h with h;subst h;exact MJ
 ·injection h with h;subst h;exact MK
 ·injection h with h;subst h;exact ML
 ·injection h with h;subst h;exact MM
 ·injection h with h;subst h;exact MN
 ·injection h with h;subst h;exact MO
 ·injection h with h;subst h;exact MP
 ·injection h with h;subst h;exact MQ
 ·injection h with h;subst h;exact MR
 ·injection h with h;subst h;exact MS
 ·injection h with h;subst h;exact MT
 ·injection h with h;subst h;exact MU
 ·injection h with h;subst h;exact MV
 ·injection h with h;subst h;exact MW
 ·injection h with h;subst h;exact MX
 ·injection h with h;subst h;exact MY
 ·injection h with h;subst h;exact MZ
 ·injection h with h;subst h;exact Na
 ·injection h with h;subst h;exact Nb
 ·injection h with h;subst h;exact Hk
 ·injection h with h;subst h;exact Nc
 ·injection h with h;subst h;exact Nd
 ·injection h with h;subst h;exact Nf
 ·injection h with h;subst h;exact Ng
 ·injection h with h;subst h;exact Kf
 ·injection h with h;subst h;exact Kg
 ·injection h with h;subst h;exact Kh
 ·injection h with h;subst h;exact Ki
 ·injection h with h;subst h;exact Kj
 ·injection h with h;subst h;exact Kk
 ·injection h with h;subst h;exact Kl
 ·injection h with h;subst h;exact Km
 ·injection h with h;subst h;exact Kn
 ·injection h with h;subst h;exact Ko
 ·injection h with h;subst h;exact Kp
 ·injection h with h;subst h;exact Kq
 ·injection h with h;subst h;exact Kr
 ·injection h with h;subst h;exact Ks
 ·injection h with h;subst h;exact AB
 ·injection h with h;subst h;exact mf
 ·injection h with h;subst h;exact Kt
 ·injection h with h;subst h;exact Ku
 ·injection h with h;subst h;exact Kv
 ·injection h with h;subst h;exact Kw
 ·injection h with h;subst h;exact Kx
 ·injection h with h;subst h;exact Ky
 ·injection h with h;subst h;exact Kz
 ·injection h with h;subst h;exact KB
 ·injection h with h;subst h;exact KC
 ·injection h with h;subst h;exact KE
 ·injection h with h;subst h;exact KF
 ·injection h with h;subst h;exact KG
 ·cases h
end Go.Proofs.YthkhcbphbabefaaGreat.Am
namespace Go.Proofs.YthkhcbphbabefaaGreat.Am
open Go Go.Shelf Go.Proofs Go.RowKit
def ra(x y:Int):Int:=if x<y then -1 else if y<x then 1 else 0
def dl:List Int->Int
 |[]=>0
 |x::l=>if x=0 then dl l else x
def iU(a b:Int×Int×Int):Int:=dl [ra b.2.1 a.2.1,ra a.2.2 b.2.2,ra a.1 b.1]
theorem pA(x y:Int):ra x y<0↔x<y:=by unfold ra;split <;> (try split) <;> omega
theorem mg(x y:Int):ra x y=0↔x=y:=by unfold ra;split <;> (try split) <;> omega
theorem vV(a b:Int×Int×Int):ltOf iU a b=true↔b.2.1<a.2.1\/(a.2.1=b.2.1/\(a.2.2<b.2.2\/(a.2.2=b.2.2/\a.1<b.1))):=by
 unfold ltOf iU;rw[PX];have h1:=pA b.2.1 a.2.1;have h2:=mg b.2.1 a.2.1;have h3:=pA a.2.2 b.2.2;have h4:=mg a.2.2 b.2.2;have h5:=pA a.1 b.1;have h6:=mg a.1 b.1;simp only[dl];generalize ra b.2.1 a.2.1=p at *
 generalize ra a.2.2 b.2.2=q at *
 generalize ra a.1 b.1=r at *
 by_cases hp:p=0
 ·rw[Qx hp];by_cases hq:q=0
  ·rw[Qx hq];by_cases hr:r=0
   ·rw[Qx hr];omega
   ·rw[Ql hr];omega
  ·rw[Ql hq];omega
 ·rw[Ql hp];omega
theorem AD:Sort.SWO (ltOf iU):=by
 refine⟨λx=>?_,λx y z h k=>?_,λx y z h k=>?_⟩
 ·rw[<-RY,vV];omega
 ·rw[vV]at h k⊢;omega
 ·rw[<-RY,vV]at h k⊢;omega
theorem Pu(x:Int) (w:World):Calls Tryz.prog 93 #[.int .i64 x] w λe w'=>e= .returned (.bool false)/\w'=w:=by
 go_enter Tryz.func93,Tryz.ntmps93
 go_wp2
 go_ret
 exact⟨by simp,rfl⟩
theorem Pv(x:Int) (w:World):Calls Tryz.prog 92 #[.int .u64 x] w λe w'=>e= .returned (.bool false)/\w'=w:=by
 go_enter Tryz.func92,Tryz.ntmps92
 go_wp2
 go_ret
 exact⟨by simp,rfl⟩
set_option maxHeartbeats 1000000 in
theorem Nh(x y:Int) (w:World):Calls Tryz.prog 69 #[.int .i64 x,.int .i64 y] w λe w'=>e= .returned (.int .i64 (ra x y))/\w'=w:=by
 go_enter Tryz.func69,Tryz.ntmps69
 go_wp2_with (go_at_call 93;refine(Pu _ _).mono ?_;rintro e w' ⟨rfl,hw⟩;rw[hw])
 all_goals (go_ret;refine⟨?_,rfl⟩;unfold ra;(repeat' split) <;> first | rfl | (exfalso;omega))
set_option maxHeartbeats 1000000 in
theorem Ni(x y:Int) (w:World):Calls Tryz.prog 68 #[.int .u64 x,.int .u64 y] w λe w'=>e= .returned (.int .i64 (ra x y))/\w'=w:=by
 go_enter Tryz.func68,Tryz.ntmps68
 go_wp2_with (go_at_call 92;refine(Pv _ _).mono ?_;rintro e w' ⟨rfl,hw⟩;rw[hw])
 all_goals (go_ret;refine⟨?_,rfl⟩;unfold ra;(repeat' split) <;> first | rfl | (exfalso;omega))
set_option maxHeartbeats 1000000 in
set_option maxRecDepth 100000 in
theorem orI(l:List Int) (b:Nat) (w:World) (hb:∀k,(h:k<l.length)->w.cell? ⟨b,k,none⟩=some (.int .i64 l[k])) (hl:l.length<1000):Calls Tryz.prog 67 #[.slice (some ⟨b,0,none⟩) l.length l.length] w λe w'=>e= .returned (.int .i64 (dl l))/\w'=w:=by
 obtain⟨n,hn⟩:∃n,l.length=n:=⟨_,rfl⟩;rw[hn]at hl⊢;have Hn:=Lib.hid hn;clear hn
 go_enter Tryz.func67,Tryz.ntmps67
 go_wp2
 go_loop [8] (λi=>∃k:Nat,i= .int .i64 k/\k<=n/\dl l=dl (l.drop k)) (λi=>n-(intOf i).toNat)
 case atStart=>exact⟨0,rfl,by omega,by simp⟩
 case round=>
  obtain⟨k,rfl,hk,hf⟩:=hrel;have Hf:=Lib.hid hf;clear hf;by_cases hlt:(k:Int)<(n:Int)
  ·have hkl:k<l.length:=by rw[Hn.out];omega
   have hc:=hb k hkl;have Hdrop:=Lib.hid (RO hkl);clear hb;generalize l[k]=x at *
   by_cases hx:x=0
   ·go_wp2_with fail
    go_round
    case rel=>exact⟨k+1,by go_num,by omega,by rw[Hf.out,Hdrop.out,dl,Qx hx]⟩
    case measure=>simp[intOf];omega
   ·go_wp2_with fail
    go_ret
    exact⟨by rw[Hf.out,Hdrop.out,dl,Ql hx];rfl,rfl⟩
  ·have hkn:k=n:=by omega
   go_wp2_with fail
   go_ret
   exact⟨by rw[Hf.out,List.drop_of_length_le (by rw[Hn.out];omega)];rfl,rfl⟩
theorem Pw(a b c:Int) (W:World):Calls Tryz.prog 67 #[.slice (some ⟨W.heap.size,0,none⟩) 3 3] (W.alloc (.cells #[.int .i64 a,.int .i64 b,.int .i64 c] 3)).drew λe w'=>e= .returned (.int .i64 (dl [a,b,c]))/\w'=(W.alloc (.cells #[.int .i64 a,.int .i64 b,.int .i64 c] 3)).drew:=
 orI [a,b,c] _ _ (λk hk=>(Box.new W 3 [.int .i64 a,.int .i64 b,.int .i64 c] rfl).drew.cell k (by
  have hk':k=0\/k=1\/k=2:=by simp at hk;omega
  rcases hk' with rfl|rfl|rfl <;> rfl)) (by simp)
set_option maxHeartbeats 4000000 in
set_option maxRecDepth 100000 in
theorem DN(x1 x2 x3 y1 y2 y3:Int) (W:World):Calls Tryz.prog 66 #[.agg #[.int .i64 x1,.int .u64 x2,.int .i64 x3],.agg #[.int .i64 y1,.int .u64 y2,.int .i64 y3]] W
  λo w'=>o= .returned (.int .i64 (dl [ra y2 x2,ra x3 y3,ra x1 y1]))/\∃q os,w'=Sort.grow (W.drewN q) os:=by
 have hb2:Box ((W.alloc (.cells #[.int .i64 x1,.int .u64 x2,.int .i64 x3] 82)).alloc (.cells #[.int .i64 y1,.int .u64 y2,.int .i64 y3] 82)) W.heap.size 82 [.int .i64 x1,.int .u64 x2,.int .i64 x3]:=(Box.new W 82 [.int .i64 x1,.int .u64 x2,.int .i64 x3] rfl).alloc _;have hb3:Box ((W.alloc (.cells #[.int .i64 x1,.int .u64 x2,.int .i64 x3] 82)).alloc (.cells #[.int .i64 y1,.int .u64 y2,.int .i64 y3] 82)) (W.heap.size+1) 82 [.int .i64 y1,.int .u64 y2,.int .i64 y3]:=Box.new (W.alloc (.cells #[.int .i64 x1,.int .u64 x2,.int .i64 x3] 82)) 82 [.int .i64 y1,.int .u64 y2,.int .i64 y3] (by simp);have hgr:∃os,((W.alloc (.cells #[.int .i64 x1,.int .u64 x2,.int .i64 x3] 82)).alloc (.cells #[.int .i64 y1,.int .u64 y2,.int .i64 y3] 82))=Sort.grow W os:=⟨_,by rw[Sort.alloc_eq_grow,Sort.alloc_eq_grow,Sort.grow_grow]⟩
 go_enter Tryz.func66,Tryz.ntmps66
 go_wp2_with fail
 generalize ((W.alloc (.cells #[.int .i64 x1,.int .u64 x2,.int .i64 x3] 82)).alloc (.cells #[.int .i64 y1,.int .u64 y2,.int .i64 y3] 82))=W1 at hb2 hb3 hgr⊢;generalize W.heap.size+1=b3 at hb3⊢;generalize W.heap.size=b2 at hb2⊢;have k0:=hb2.cell 0 rfl;have k1:=hb2.cell 1 rfl;have k2:=hb2.cell 2 rfl;have k3:=hb3.cell 0 rfl;have k4:=hb3.cell 1 rfl;have k5:=hb3.cell 2 rfl
 go_region_held3 (λw'=>w'.cell? ⟨b2,0,none⟩=some (.int .i64 x1)/\w'.cell? ⟨b2,1,none⟩=some (.int .u64 x2)/\w'.cell? ⟨b2,2,none⟩=some (.int .i64 x3)/\w'.cell? ⟨b3,0,none⟩=some (.int .i64 y1)/\w'.cell? ⟨b3,1,none⟩=some (.int .u64 y2)/\w'.cell? ⟨b3,2,none⟩=some (.int .i64 y3))
  (first | exact⟨k0,k1,k2,k3,k4,k5⟩ | exact⟨(hb2.drew.alloc _).cell 0 rfl,(hb2.drew.alloc _).cell 1 rfl,(hb2.drew.alloc _).cell 2 rfl,(hb3.drew.alloc _).cell 0 rfl,(hb3.drew.alloc _).cell 1 rfl,(hb3.drew.alloc _).cell 2 rfl⟩)
  (first
   |(go_at_call 68;refine(Ni _ _ _).mono ?_;rintro e w2 ⟨rfl,rfl⟩)
   |(go_at_call 69;refine(Nh _ _ _).mono ?_;rintro e w2 ⟨rfl,rfl⟩)
   |(go_at_call 67;refine(Pw _ _ _ _).mono ?_;rintro e w2 ⟨rfl,rfl⟩))
 go_wp2
 go_ret
 obtain⟨os,rfl⟩:=hgr;exact⟨rfl,1,_,by rw[Sort.alloc_eq_grow,Sort.grow_grow];rfl⟩
theorem xw:FnT Tryz.prog 65 (pz (.pr (.int .i64) (.pr (.int .u64) (.int .i64))) 82 66 iU):=
 DM Tryz.sortItems (fn:=Tryz.f65) Tryz.func65 rfl rfl (.pr (.int .i64) (.pr (.int .u64) (.int .i64))) rfl 82 (by decide) (λw=>Hk.isAgg w) (λw=>Hk.sizeOf w) iU AD 66 (enters_of Tryz.func66 (by kernel_rfl) rfl) λx y W=>DN x.1 x.2.1 x.2.2 y.1 y.2.1 y.2.2 W
end Go.Proofs.YthkhcbphbabefaaGreat.Am
namespace Go.Proofs.YthkhcbphbabefaaGreat.Am
open Go Go.Proofs Go.RowKit
theorem bZ{P:Program}(w:World) (dT sT ty elem:TypeId) (g o dLen dCap:Nat) (a:Addr) (sLen sCap:Nat) (cur:Array Value) (t:TypeId) (cs:List Value) (z:Nat)
  (hu:P.underlying dT=some (.slice elem)) (hs:(P.info? elem).map (·.size)=some z)
  (hg:w.heap[g]?=some (.cells cur t (0,0))) (hn:cs.length=Nat.min sLen dLen*z)
  (hsrc:∀j v,cs[j]?=some v->w.cell? (a.add j)=some v) (hfit:o+cs.length<=cur.size) (h1:∀v∈cs,v.oneCell'=true) :
  (Builtin.copy_ #[dT,sT] ty #[.slice (some ⟨g,o,none⟩) dLen dCap,.slice (some a) sLen sCap]).run P w =
   .ok (goInt (Nat.min sLen dLen)) (w.setRow g (cur.toList.take o++cs++cur.toList.drop (o+cs.length)).toArray):=by
 have hl:=run_loadCells_list (P:=P) w a cs hsrc;have hst:=run_storeCells_at P g o t cs 0 cur w hg (by simpa using hfit) h1;cases hq:P.info? elem with
 |none=>simp[hq]at hs
 |some i=>
  have hi:i.size=z:=by simpa [hq]using hs
  simp[Builtin.copy_,run_underlying hu,Builtin.lenOf,Builtin.firstCells,sizeOf,typeInfo,hq,hi,<-hn,hl,hst]
def XA{u:U}(l:List u.den):List Value:=l.flatMap u.encV
section
variable {u:U}
theorem X4(hz:u.size=2) (l:List u.den):(XA l).length=l.length*2:=gJ _ 2 l λa _=>(u.encV_len a).trans hz
theorem iV(l m:List u.den):XA (l++m)=XA l++XA m:=RV
theorem tK(hz:u.size=2) (l:List u.den) (i:Nat) (h:i<=l.length):(XA l).take (i*2)=XA (l.take i):=by
 have e:XA l=XA (l.take i)++XA (l.drop i):=by rw[<-iV,Qv]
 have hl:(XA (l.take i)).length=i*2:=by rw[X4 hz,Qb];omega
 rw[e,<-hl,QU]
theorem tL(hz:u.size=2) (l:List u.den) (i:Nat) (h:i<=l.length):(XA l).drop (i*2)=XA (l.drop i):=by
 have e:XA l=XA (l.take i)++XA (l.drop i):=by rw[<-iV,Qv]
 have hl:(XA (l.take i)).length=i*2:=by rw[X4 hz,Qb];omega
 rw[e,<-hl,QR]
theorem rb(l:List u.den):∀v∈XA l,v.oneCell'=true:=λv hv=>by
 obtain⟨a,_,h⟩:=List.mem_flatMap.1 hv;exact u.encV_one a v h
theorem Hl{I:Nat->Nat->Prop}{w:World}(hu:u.flat=true):∀{l:List u.den}{xs:List Value},D2 I w (l.map u.enc) xs->xs=XA l
 |[],xs,h=>h
 |a::l,xs,h=>by
  simp only[PQ,D2]at h;obtain⟨c,r,rfl,h1,h2⟩:=h;rw[u.encV_of hu a h1,Hl hu h2];rfl
theorem DO{I:Nat->Nat->Prop}{w:World}(hu:u.flat=true):∀(l:List u.den),D2 I w (l.map u.enc) (XA l)
 |[]=>rfl
 |a::l=>by
  simp only[PQ,D2];exact⟨u.encV a,XA l,rfl,u.encV_to hu a,DO hu l⟩
def fm(w:World) (v:Value) (l:List u.den) (e:Ending) (w':World):Prop:=∃v',e= .returned v'/\w'.ownsRow 0 130 2 v' l.length (XA l)/\((v'.ownBlock=v.ownBlock/\w.grownBy w' v.ownBlock)\/(w.grownBy w' none/\v'.ownBlock=some w.heap.size))
set_option maxHeartbeats 4000000 in
set_option maxRecDepth 100000 in
theorem AE(hu:u.flat=true) (hz:u.size=2){w:World}{l:List u.den}{a:u.den}{A:Option Addr}{n c vb vc:Nat}(hn:l.length=n) (how:w.ownsRow 0 130 2 (.slice A n c) n (XA l)) (hv:w.ownsRow 0 130 2 (.slice (some ⟨vb,0,none⟩) 1 vc) 1 (XA [a])) (hb:(n+1)*16<=140737488355328) :
  Calls Tryz.prog 57 #[.slice A n c,.int .i64 n,.slice (some ⟨vb,0,none⟩) 1 vc] w (fm w (.slice A n c) (l++[a])):=by
 obtain⟨v',w',yc,hrun,ho,hd,halt⟩:∃v' w' yc,(∀ty,(Builtin.append_ #[127,127] ty #[.slice A n c,.slice (some ⟨vb,0,none⟩) 1 vc]).run Tryz.prog w= .ok v' w')/\w'.ownsRow 0 130 2 v' (n+1) (XA l++yc)/\D2 (λ_ _=>True) w ([a].map u.enc) yc/\
   ((v'.ownBlock=(Value.slice A n c).ownBlock/\w.grownBy w' (Value.slice A n c).ownBlock)\/(w.grownBy w' none/\v'.ownBlock=some w.heap.size)):=by
  have hd:DVr (λ_ _=>True) w (.sl ([a].map u.enc)) (.slice (some ⟨vb,0,none⟩) 1 vc):=row_dv (I:=λ_ _=>True) (R:=⟨[a].map u.enc,2,130,false⟩) ⟨(by decide:0<2),λe he=>by obtain⟨x,_,rfl⟩:=List.mem_map.1 he;exact(u.enc_len x).trans hz,.inl ⟨(by decide:130<Q7),XA [a],hv,DO hu _⟩⟩ (by decide:130<Q7);obtain⟨v',w',yc,h1,h2,h3,h4⟩:=rZ (P:=Tryz.prog) mf (by decide) Tryz.underlying127 0 how hd (λe he=>by obtain⟨x,_,rfl⟩:=List.mem_map.1 he;exact(u.enc_len x).trans hz) (by exact hb) (by simp only[PR,Qg,QF];omega);exact⟨v',w',yc,λty=>h1,h2,h3,h4⟩
 have hyc:=Hl hu hd;subst hyc;rw[<-iV]at ho;have hpost:fm w (.slice A n c) (l++[a]) (.returned v') w':=⟨v',rfl,by rw[PU,hn];exact ho,halt⟩;clear halt hd how hv;have Hp:=Lib.hid hpost;clear hpost ho
 go_enter Tryz.func57,Tryz.ntmps57
 go_wp2_with (at_builtin;refine Lib.wpList_append_run _ rfl _ _ _ _ rfl _ _ rfl rfl _ _ (hrun _) ?_)
 all_goals go_ret
 all_goals first | exact Hp.out | (cases A <;> exact Hp.out)
set_option maxHeartbeats 4000000 in
set_option maxRecDepth 100000 in
theorem DP(_hu:u.flat=true) (hz:u.size=2){w:World}{l:List u.den}{a:u.den}{n c b vb vc i:Nat}{cur vcur:Array Value}(hn:l.length=n) (hi:i<n) (hroom:n+1<=c) (hc:c<=maxLen) (hvb:vb≠b)
  (hg:w.heap[b]?=some (.cells cur 130 (0,0))) (hcs:cur.size=c*2) (htk:cur.toList.take (n*2)=XA l)
  (hvg:w.heap[vb]?=some (.cells vcur 130 (0,0))) (_hvs:2<=vcur.size) (hvt:vcur.toList.take 2=XA [a]) :
  Calls Tryz.prog 57 #[.slice (some ⟨b,0,none⟩) n c,.int .i64 i,.slice (some ⟨vb,0,none⟩) 1 vc] w (fm w (.slice (some ⟨b,0,none⟩) n c) (l.take i++a::l.drop i)):=by
 have hov:∀A lb cb,(callFunc 82 #[.slice (some ⟨vb,0,none⟩) 1 vc,.slice (some ⟨b,A,none⟩) lb cb]).run Tryz.prog w= .ok (.value (.bool false)) w:=λA lb cb=>by
  rw[run_callFunc_extern Tryz.func82 (by kernel_rfl) (by kernel_rfl) (by kernel_rfl) (e:=Extern.SlicesOverlaps.overlaps #[127,127] #[4]) (by kernel_rfl),
   Lib.run_overlaps_apart w 127 4 130 Tryz.underlying127 2 (mf.sizeOf) ⟨vb,0,none⟩ ⟨b,A,none⟩ 1 vc lb cb hvb 130 130 vcur.size cur.size (by simp[World.shape?,hvg]) (by simp[World.shape?,hg]) (by omega) (by simp[World.frozen?,hvg]) (by simp[World.frozen?,hvg])]
  rfl
 have hw1:IntKind.i64.wrap ((n:Int)+1)=(n:Int)+1:=by unfold maxLen at hc;rw[IntKind.wrap_i64];omega
 have hw2:IntKind.i64.wrap ((i:Int)+1)=(i:Int)+1:=by unfold maxLen at hc;rw[IntKind.wrap_i64];omega
 have hne:¬(i:Int)=(n:Int):=by omega
 have hle:¬(c:Int)<(n:Int)+1:=by omega
 have ht1:((n:Int)+1).toNat=n+1:=by omega
 have ht2:((i:Int)+1).toNat=i+1:=by omega
 have hsz:(Tryz.prog.info? 130).map (·.size)=some 2:=by obtain⟨inf,zv,hinf,hh⟩:=mf.info;rw[hinf];exact congrArg some hh.1
 have hL:(XA l).length=n*2:=by rw[X4 hz,hn]
 have hcell:∀(W:World),W.heap[b]?=some (.cells cur 130 (0,0))->∀j v,(XA l)[j]?=some v->W.cell? ⟨b,j,none⟩=some v:=λW hW j v hj=>by
  rw[<-htk,List.getElem?_take]at hj;split at hj
  ·simpa [World.cell?,hW]using hj
  ·cases hj
 have hcp1:∀(W:World),W.heap[b]?=some (.cells cur 130 (0,0))->∀ty dc sc,(Builtin.copy_ #[127,127] ty #[.slice (some ⟨b,(i+1)*2,none⟩) (n-i) dc,.slice (some ⟨b,i*2,none⟩) (n+1-i) sc]).run Tryz.prog W= .ok (goInt ((n-i:Nat):Int)) (W.setRow b (cur.toList.take ((i+1)*2)++XA (l.drop i)++cur.toList.drop ((i+1)*2+(XA (l.drop i)).length)).toArray):=λW hW ty dc sc=>by
  have hmin:Nat.min (n+1-i) (n-i)=n-i:=by simp only[Tf];split <;> omega
  have:=bZ (P:=Tryz.prog) W 127 127 ty 130 b ((i+1)*2) (n-i) dc ⟨b,i*2,none⟩ (n+1-i) sc cur 130 (XA (l.drop i)) 2 Tryz.underlying127 hsz hW
   (by rw[X4 hz,Qk,hmin,hn]) (λj v hj=>by
    rw[Addr.add_lit];apply hcell W hW;rw[<-tL hz l i (by omega),List.getElem?_drop]at hj;exact hj) (by rw[X4 hz,Qk,hcs,hn];omega) (rb _)
  rw[hmin]at this;exact this
 obtain⟨cur2,hcur2⟩:∃cur2,cur2=(cur.toList.take ((i+1)*2)++XA (l.drop i)++cur.toList.drop ((i+1)*2+(XA (l.drop i)).length)).toArray:=⟨_,rfl⟩;rw[<-hcur2]at hcp1;have hL2:(XA (l.drop i)).length=(n-i)*2:=by rw[X4 hz,Qk,hn]
 have hs2:cur2.size=c*2:=by
  rw[hcur2];simp only[QC,PU,Qb,Qk,hL2,PZ,hcs];omega
 have hcp2:∀(W:World),W.heap[b]?=some (.cells cur2 130 (0,0))->W.heap[vb]?=some (.cells vcur 130 (0,0))->∀ty dc,(Builtin.copy_ #[127,127] ty #[.slice (some ⟨b,i*2,none⟩) (n+1-i) dc,.slice (some ⟨vb,0,none⟩) 1 vc]).run Tryz.prog W= .ok (goInt 1) (W.setRow b (cur2.toList.take (i*2)++XA [a]++cur2.toList.drop (i*2+(XA [a]).length)).toArray):=λW hW hV ty dc=>by
  have hmin:Nat.min 1 (n+1-i)=1:=by simp only[Tf];split <;> omega
  have:=bZ (P:=Tryz.prog) W 127 127 ty 130 b (i*2) (n+1-i) dc ⟨vb,0,none⟩ 1 vc cur2 130 (XA [a]) 2 Tryz.underlying127 hsz hW
   (by rw[X4 hz,hmin];rfl) (λj v hj=>by
    rw[Addr.add_lit,Qo];rw[<-hvt,List.getElem?_take]at hj;split at hj
    ·simpa [World.cell?,hV]using hj
    ·cases hj) (by rw[X4 hz,hs2];simp only[QG];omega) (rb _)
  rw[hmin]at this;exact this
 have hfin:(cur2.toList.take (i*2)++XA [a]++cur2.toList.drop (i*2+(XA [a]).length)).take ((n+1)*2)=XA (l.take i++a::l.drop i):=by
  have hA:(XA [a]).length=2:=by rw[X4 hz];rfl
  have h1:cur2.toList.take (i*2)=XA (l.take i):=by
   rw[hcur2];simp only[Qe];rw[RX (by simp only[Qb,PZ,hcs];omega),Se,<-tK hz l i (by omega),<-htk,Se];congr 1;simp only[Tf];split <;> split <;> omega
  have h2:cur2.toList.drop (i*2+(XA [a]).length)=XA (l.drop i)++cur.toList.drop ((i+1)*2+(XA (l.drop i)).length):=by
   rw[hcur2];simp only[Qe];have:i*2+(XA [a]).length=(cur.toList.take ((i+1)*2)).length:=by simp only[Qb,PZ,hcs,hA];omega
   rw[this,QR]
  rw[h1,h2,<-Qe,<-iV,<-iV,Qe,Rw];have:(n+1)*2=(XA (l.take i++a::l.drop i)).length:=by rw[X4 hz];simp only[PU,Qb,Qg,Qk];omega
  rw[this,QU]
 obtain⟨cur3,hcur3⟩:∃cur3,cur3=(cur2.toList.take (i*2)++XA [a]++cur2.toList.drop (i*2+(XA [a]).length)).toArray:=⟨_,rfl⟩;rw[<-hcur3]at hcp2;have hs3:cur3.size=c*2:=by
  have hA:(XA [a]).length=2:=by rw[X4 hz];rfl
  rw[hcur3];simp only[QC,PU,Qb,Qk,hA,PZ,hs2];omega
 have hfin3:cur3.toList.take ((n+1)*2)=XA (l.take i++a::l.drop i):=by rw[hcur3];exact hfin
 have hpost:∀W':World,W'.heap[b]?=some (.cells cur3 130 (0,0))->w.grownBy W' (some b)->fm w (.slice (some ⟨b,0,none⟩) n c) (l.take i++a::l.drop i) (.returned (.slice (some ⟨b,0,none⟩) (n+1) c)) W':=λW' h1 h2=>by
  have hll:(l.take i++a::l.drop i).length=n+1:=by simp only[PU,Qb,Qg,Qk];omega
  refine⟨_,rfl,?_,.inl ⟨rfl,h2⟩⟩;rw[hll];exact⟨by rw[X4 hz,hll],.inr ⟨b,c,cur3,rfl,QE _,h1,hroom,hc,hs3,hfin3⟩⟩
 clear hfin hfin3 hs3 hcur3 hs2 hL2 hcur2 hcell hL;have hbl:b<w.heap.size:=(Array.getElem?_eq_some_iff.1 hg).1;have mixed:Tryz.prog.follows Departure.mixedOrders=true:=by kernel_rfl
 have hb1:(0:Int)<=(i:Int)+1:=by omega
 have hin:i<=n:=by omega
 have hin2:i<=n+1:=by omega
 have hin3:(i:Int)<=(n:Int)+1:=by omega
 have hin4:(i:Int)<=(n:Int):=by omega
 have hb2:¬c=i+1:=by omega
 have hb4:¬c=i:=by omega
 go_enter Tryz.func57,Tryz.ntmps57
 go_wp2_with (simp only[hov])
 go_region_law_o (refine step_copy_runI rfl _ _ 127 127 rfl (.slice (some ⟨b,(i+1)*2,none⟩) (n-i) (c-(i+1))) (.slice (some ⟨b,i*2,none⟩) (n+1-i) (c-i)) (by simp[Act.eval,Act.put]) (by simp[Act.eval,Act.put]) (hcp1 w.drew hg _ _ _) ?_)
 have hb2':(w.drew.setRow b cur2).heap[b]?=some (.cells cur2 130 (0,0)):=setRow_heap _ _ _ _ _ _ hg;have hv2':(w.drew.setRow b cur2).heap[vb]?=some (.cells vcur 130 (0,0)):=(setRow_other _ _ _ _ hvb).trans hvg;have hrun2:=hcp2 _ hb2' hv2'
 go_wp2_with (at_builtin;refine wpList_copy_runI _ rfl _ _ 127 127 rfl _ _ rfl rfl (hrun2 _ _) ?_)
 go_ret
 exact hpost _ (setRow_heap _ _ _ _ _ _ hb2') ⟨rfl,rfl,rfl,by simp,λk hk hne=>by
  have hkb:k≠b:=λe=>hne (by rw[e]);rw[setRow_other _ _ _ _ hkb,setRow_other _ _ _ _ hkb];rfl⟩
set_option maxHeartbeats 4000000 in
set_option maxRecDepth 100000 in
theorem DQ(_hu:u.flat=true) (hz:u.size=2){w:World}{l:List u.den}{a:u.den}{n c b vb vc i:Nat}{cur vcur:Array Value}(hn:l.length=n) (hi:i<n) (hnc:n<=c) (hroom:c<n+1) (hbig:(n+1)*16<=140737488355328)
  (hg:w.heap[b]?=some (.cells cur 130 (0,0))) (hcs:cur.size=c*2) (htk:cur.toList.take (n*2)=XA l)
  (hvg:w.heap[vb]?=some (.cells vcur 130 (0,0))) (_hvs:2<=vcur.size) (hvt:vcur.toList.take 2=XA [a]) :
  Calls Tryz.prog 57 #[.slice (some ⟨b,0,none⟩) n c,.int .i64 i,.slice (some ⟨vb,0,none⟩) 1 vc] w (fm w (.slice (some ⟨b,0,none⟩) n c) (l.take i++a::l.drop i)):=by
 have hsz:(Tryz.prog.info? 130).map (·.size)=some 2:=by obtain⟨inf,zv,hinf,hh⟩:=mf.info;rw[hinf];exact congrArg some hh.1
 have hbl:b<w.heap.size:=(Array.getElem?_eq_some_iff.1 hg).1;have hvbl:vb<w.heap.size:=(Array.getElem?_eq_some_iff.1 hvg).1;have hcell:∀(W:World),W.heap[b]?=some (.cells cur 130 (0,0))->∀j v,(XA l)[j]?=some v->W.cell? ⟨b,j,none⟩=some v:=λW hW j v hj=>by
  rw[<-htk,List.getElem?_take]at hj;split at hj
  ·simpa [World.cell?,hW]using hj
  ·cases hj
 have hkk:(n:Int)+1-(i:Int)=((n+1-i:Nat):Int):=by omega
 have hik:i+(n+1-i)=n+1:=by omega
 obtain⟨ROW,hrz,hRs,hRt⟩:∃ROW:Array Value,(∀ty,(Builtin.append_ #[127,3] ty #[.slice (some ⟨b,0,none⟩) i c,.int .i64 ((n:Int)+1-(i:Int))]).run Tryz.prog w =
   .ok (.slice (some ⟨w.heap.size,0,none⟩) (n+1) (grownCap w (n+1) c 130)) (w.drew.alloc (.cells ROW 130)))/\ROW.size=grownCap w (n+1) c 130*2/\ROW.toList.take (i*2)=XA (l.take i):=by
  obtain⟨inf,zv,hinf,hs,hby,hzv,hzc,hzl,_⟩:=mf.info;have hs':inf.size=2:=hs;have hby':inf.bytes=16:=hby
  have hzs:zv.cells.size=2:=by have:=hzc▸hzl;exact this
  have hGn:n+1<=grownCap w (n+1) c 130:=grownCap_ge w _ _ _;have hLt:(XA (l.take i)).length=i*2:=by rw[X4 hz,Qb];omega
  have hold:(Builtin.firstCells inf.size i (.slice (some ⟨b,0,none⟩) i c)).run Tryz.prog w.drew= .ok (XA (l.take i)).toArray w.drew:=by
   rw[hs'];exact run_firstCells_some w.drew 2 i ⟨b,0,none⟩ i c (XA (l.take i)) hLt (λj v hj=>by
    rw[Addr.add_lit,Qo];rw[<-tK hz l i (by omega),List.getElem?_take]at hj;split at hj
    ·exact hcell w.drew hg j v hj
    ·cases hj)
  refine⟨(XA (l.take i)).toArray++Builtin.zeroCells zv.cells (n+1-i)++Builtin.zeroCells zv.cells (grownCap w (n+1) c 130-(n+1)),λty=>?_,?_,?_⟩
  ·have h:=Lib.run_append_grow_zeros w 127 3 ty 130 inf _ .i64 .i64 Tryz.underlying127 Tryz.underlying3 hinf hzv (some ⟨b,0,none⟩) i c (XA (l.take i)) hold (n+1-i) (by omega) (by omega) (by omega) (by omega) (by rw[hby'];omega) (by rw[hby',hik];exact growslice_fits hroom hbig);rw[hik]at h;rw[hkk];exact h
  ·simp only[Array.size_append,size_zeroCells,hzs,QC,hLt];omega
  ·simp only[Array.toList_append,Qe];rw[<-hLt,QU]
 obtain⟨G,hG⟩:∃G,G=grownCap w (n+1) c 130:=⟨_,rfl⟩;have hGn:n+1<=G:=by rw[hG];exact grownCap_ge w _ _ _
 have hG63:G<=maxLen:=by rw[hG];exact grownCap_le_maxLen w (n+1) c 130 (by unfold maxLen;omega)
 rw[<-hG]at hrz hRs;obtain⟨g,hgs⟩:∃g,g=w.heap.size:=⟨_,rfl⟩;rw[<-hgs]at hrz;have hA:(XA [a]).length=2:=by rw[X4 hz];rfl
 have hL2:(XA (l.drop i)).length=(n-i)*2:=by rw[X4 hz,Qk,hn]
 obtain⟨cur2,hcur2⟩:∃cur2,cur2=(ROW.toList.take (i*2)++XA [a]++ROW.toList.drop (i*2+(XA [a]).length)).toArray:=⟨_,rfl⟩;obtain⟨cur3,hcur3⟩:∃cur3,cur3=(cur2.toList.take ((i+1)*2)++XA (l.drop i)++cur2.toList.drop ((i+1)*2+(XA (l.drop i)).length)).toArray:=⟨_,rfl⟩;have hs2:cur2.size=G*2:=by
  rw[hcur2];simp only[QC,PU,Qb,Qk,hA,PZ,hRs];omega
 have hs3:cur3.size=G*2:=by
  rw[hcur3];simp only[QC,PU,Qb,Qk,hL2,PZ,hs2];omega
 have hcpA:∀(W:World),W.heap[g]?=some (.cells ROW 130 (0,0))->W.heap[vb]?=some (.cells vcur 130 (0,0))->∀ty dc,(Builtin.copy_ #[127,127] ty #[.slice (some ⟨g,i*2,none⟩) (n+1-i) dc,.slice (some ⟨vb,0,none⟩) 1 vc]).run Tryz.prog W= .ok (goInt 1) (W.setRow g cur2):=λW hW hV ty dc=>by
  have hmin:Nat.min 1 (n+1-i)=1:=by simp only[Tf];split <;> omega
  have:=bZ (P:=Tryz.prog) W 127 127 ty 130 g (i*2) (n+1-i) dc ⟨vb,0,none⟩ 1 vc ROW 130 (XA [a]) 2 Tryz.underlying127 hsz hW
   (by rw[hA,hmin]) (λj v hj=>by
    rw[Addr.add_lit,Qo];rw[<-hvt,List.getElem?_take]at hj;split at hj
    ·simpa [World.cell?,hV]using hj
    ·cases hj) (by rw[hA,hRs];omega) (rb _)
  rw[hmin,<-hcur2]at this;exact this
 have hcpB:∀(W:World),W.heap[g]?=some (.cells cur2 130 (0,0))->W.heap[b]?=some (.cells cur 130 (0,0))->∀ty dc sc,(Builtin.copy_ #[127,127] ty #[.slice (some ⟨g,(i+1)*2,none⟩) (n-i) dc,.slice (some ⟨b,i*2,none⟩) (n-i) sc]).run Tryz.prog W= .ok (goInt ((n-i:Nat):Int)) (W.setRow g cur3):=λW hW hV ty dc sc=>by
  have hmin:Nat.min (n-i) (n-i)=n-i:=by simp only[Tf];split <;> omega
  have:=bZ (P:=Tryz.prog) W 127 127 ty 130 g ((i+1)*2) (n-i) dc ⟨b,i*2,none⟩ (n-i) sc cur2 130 (XA (l.drop i)) 2 Tryz.underlying127 hsz hW
   (by rw[hL2,hmin]) (λj v hj=>by
    rw[Addr.add_lit];apply hcell W hV;rw[<-tL hz l i (by omega),List.getElem?_drop]at hj;exact hj) (by rw[hL2,hs2];omega) (rb _)
  rw[hmin,<-hcur3]at this;exact this
 have hfin3:cur3.toList.take ((n+1)*2)=XA (l.take i++a::l.drop i):=by
  have h1:cur2.toList.take ((i+1)*2)=XA (l.take i)++XA [a]:=by
   rw[hcur2,hRt];have:(i+1)*2=(XA (l.take i)++XA [a]).length:=by rw[PU,hA,X4 hz,Qb];omega
   rw[this];exact QU
  rw[hcur3,h1,<-iV,<-iV,Qe,Rw];have:(n+1)*2=(XA (l.take i++a::l.drop i)).length:=by rw[X4 hz];simp only[PU,Qb,Qg,Qk];omega
  rw[this];exact QU
 have hpost:∀W':World,W'.heap[g]?=some (.cells cur3 130 (0,0))->w.grownBy W' none->fm w (.slice (some ⟨b,0,none⟩) n c) (l.take i++a::l.drop i) (.returned (.slice (some ⟨g,0,none⟩) (n+1) G)) W':=λW' h1 h2=>by
  have hll:(l.take i++a::l.drop i).length=n+1:=by simp only[PU,Qb,Qg,Qk];omega
  refine⟨_,rfl,?_,.inr ⟨h2,by rw[hgs];rfl⟩⟩;rw[hll];exact⟨by rw[X4 hz,hll],.inr ⟨g,G,cur3,rfl,QE _,h1,hGn,hG63,hs3,hfin3⟩⟩
 clear hfin3 hs3 hcur3 hs2 hL2 hcur2 hcell hRs hRt hG htk hvt;have hvg':vb≠g:=by omega
 have hbg':b≠g:=by omega
 obtain⟨W1,hW1⟩:∃W1,W1=w.drew.alloc (.cells ROW 130):=⟨_,rfl⟩;rw[<-hW1]at hrz;have w1g:W1.heap[g]?=some (.cells ROW 130 (0,0)):=by rw[hW1,hgs];exact Array.getElem?_push_size
 have w1o:∀k,k<w.heap.size->W1.heap[k]?=w.heap[k]?:=λk hk=>by rw[hW1];exact heap_alloc_old w.drew _ hk
 have w1s:w.heap.size<=W1.heap.size:=by rw[hW1];simp
 have w1g1:W1.os=w.os/\W1.tape=w.tape/\W1.output=w.output:=by rw[hW1];exact⟨rfl,rfl,rfl⟩
 have hgle:w.heap.size<=g:=by omega
 clear hW1 hgs;have mixed:Tryz.prog.follows Departure.mixedOrders=true:=by kernel_rfl
 have hw1:IntKind.i64.wrap ((n:Int)+1)=(n:Int)+1:=by rw[IntKind.wrap_i64];omega
 have hw2:IntKind.i64.wrap ((i:Int)+1)=(i:Int)+1:=by rw[IntKind.wrap_i64];omega
 have hw3:IntKind.i64.wrap ((n:Int)+1-(i:Int))=(n:Int)+1-(i:Int):=by rw[IntKind.wrap_i64];omega
 have hne:¬(i:Int)=(n:Int):=by omega
 have hle:(c:Int)<(n:Int)+1:=by omega
 have ht1:((n:Int)+1).toNat=n+1:=by omega
 have ht2:((i:Int)+1).toNat=i+1:=by omega
 have hb1:(0:Int)<=(i:Int)+1:=by omega
 have hin:i<=n:=by omega
 have hin2:i<=n+1:=by omega
 have hin3:(i:Int)<=(n:Int)+1:=by omega
 have hin4:(i:Int)<=(n:Int):=by omega
 have hb4:¬c=i:=by omega
 have hb5:¬G=i:=by omega
 have hb6:¬G=i+1:=by omega
 have hic:i<=c:=by omega
 clear hkk hik;have hrunA:=hcpA _ w1g ((w1o _ hvbl).trans hvg);have hp2:(W1.setRow g cur2).heap[g]?=some (.cells cur2 130 (0,0)):=setRow_heap _ _ _ _ _ _ w1g;have hrunB:=hcpB (W1.setRow g cur2).drew hp2 ((setRow_other _ _ _ _ hbg').trans ((w1o _ hbl).trans hg))
 go_enter Tryz.func57,Tryz.ntmps57
 go_wp2_with (first
  |(at_builtin;refine Lib.wpList_append_run _ rfl _ _ _ _ rfl _ _ rfl rfl _ _ (hrz _) ?_)
  |(at_builtin;refine wpList_copy_runI _ rfl _ _ 127 127 rfl _ _ rfl rfl (hrunA _ _) ?_))
 go_region_law_o (refine step_copy_runI rfl _ _ 127 127 rfl (.slice (some ⟨g,(i+1)*2,none⟩) (n-i) (G-(i+1))) (.slice (some ⟨b,i*2,none⟩) (n-i) (c-i)) (by simp[Act.eval,Act.put]) (by simp[Act.eval,Act.put]) (hrunB _ _ _) ?_)
 go_wp2
 go_ret
 exact hpost _ (setRow_heap _ _ _ _ _ _ hp2) ⟨w1g1.1,w1g1.2.1,w1g1.2.2,by simpa using w1s,λk hk hne=>by
  have hkb:k≠g:=by omega
  rw[setRow_other _ _ _ _ hkb];exact(setRow_other _ _ _ _ hkb).trans (w1o k hk)⟩
end
section
variable {u:U}
set_option maxHeartbeats 4000000 in
theorem AF(hu:u.flat=true) (hz:u.size=2){w:World}{l:List u.den}{a:u.den}{v:Value}{vb vc:Nat}{vcur:Array Value}{k:Nat}(hk:k<=l.length) (hb:(l.length+1)*16<=140737488355328) (how:w.ownsRow 0 130 2 v l.length (XA l)) (hvb:obk v≠some vb)
  (_hvg:w.heap[vb]?=some (.cells vcur 130 (0,0))) (how3:w.ownsRow 0 130 2 (.slice (some ⟨vb,0,none⟩) 1 vc) 1 (XA [a])) :
  Calls Tryz.prog 57 #[v,.int .i64 (k:Int),.slice (some ⟨vb,0,none⟩) 1 vc] w (fm w v (l.take k++a::l.drop k)):=by
 rcases how3.2 with⟨h0,_⟩|⟨vb',vc',vcur',hv3,_,hvg',hvc,hvm,hvs,hvt⟩
 ·cases h0
 injection hv3 with e1 _ e2;injection e1 with e1;injection e1 with e1 _ _;subst e1;subst e2;by_cases hil:k=l.length
 ·subst hil;rw[Ro,List.drop_length];rcases how.2 with⟨hv,h0⟩|⟨b,cap,cur,hv,_⟩
  ·subst hv;have hl:l=[]:=Qd h0;subst hl;exact AE (n:=0) hu hz rfl how how3 hb
  ·subst hv;exact AE hu hz rfl how how3 hb
 ·have hin:k<l.length:=by omega
  rcases how.2 with⟨_,h0⟩|⟨b,cap,cur,hv,_,hg,hcap,hmax,hcs,htk⟩
  ·omega
  ·subst hv;have hvb':vb≠b:=λe=>hvb (by rw[e];rfl);by_cases hroom:l.length+1<=cap
   ·exact DP hu hz rfl hin hroom hmax hvb' hg hcs htk hvg' (by omega) hvt
   ·exact DQ hu hz rfl hin hcap (by omega) hb hg hcs htk hvg' (by omega) hvt
end
theorem xy{α:Type}{l x:List α}{o:Nat}(h:o+x.length<=l.length) (n:Nat) (hn:o+x.length<=n):(setAt l o x).take n=l.take o++x++(l.drop (o+x.length)).take (n-(o+x.length)):=by
 unfold setAt;have h1:(l.take o++x).length=o+x.length:=by simp;omega
 rw[RB,h1,Rq (by omega)]
theorem tM{α:Type}{l x:List α}{o:Nat}(h:o+x.length<=l.length) (n:Nat) (hn:n<=o):(setAt l o x).take n=l.take n:=by
 unfold setAt;rw[Qe,RX (by simp;omega),Se];congr 1;omega
def tN{u:U}(w:World) (v:Value) (l:List u.den) (e:Ending) (w':World):Prop:=∃v',e= .returned v'/\w'.ownsRow 0 130 2 v' l.length (XA l)/\v'.ownBlock=v.ownBlock/\obk v'=obk v/\w.grownBy w' v.ownBlock
set_option maxHeartbeats 4000000 in
set_option maxRecDepth 100000 in
theorem AG{u:U}(hz:u.size=2){w:World}{l:List u.den}{b c k:Nat}{cur:Array Value}(hk:k<l.length) (hcl:l.length<=c) (hcm:c<=maxLen)
  (hg:w.heap[b]?=some (.cells cur 130 (0,0))) (hcs:cur.size=c*2) (htk:cur.toList.take (l.length*2)=XA l) :
  Calls Tryz.prog 59 #[.slice (some ⟨b,0,none⟩) l.length c,.int .i64 (k:Int),.int .i64 ((k:Int)+1)] w (tN w (.slice (some ⟨b,0,none⟩) l.length c) (l.eraseIdx k)):=by
 have hn:∃n,n=l.length:=⟨_,rfl⟩;obtain⟨n,hn⟩:=hn;rw[<-hn]at hk hcl htk⊢;have hL:(XA l).length=n*2:=by rw[X4 hz,hn]
 obtain⟨inf,zv,hinf,hs,hby,hzv,hzc,hzl,_⟩:=mf.info;have hs':inf.size=2:=hs;obtain⟨news,hnews⟩:∃news,news=XA (l.drop (k+1)):=⟨_,rfl⟩;have hnl:news.length=(n-(k+1))*2:=by rw[hnews,X4 hz,Qk,hn]
 have hcell:∀(W:World),W.heap[b]?=some (.cells cur 130 (0,0))->∀j,j<cur.size->W.cell? ⟨b,j,none⟩=cur[j]?:=λW hW j hj=>by simp[World.cell?,hW]
 obtain⟨A,hA,hsrc⟩:∃A:Addr,(if c=k+1 then some (⟨b,0,none⟩:Addr)else some ⟨b,(k+1)*2,none⟩)=some A/\(∀t v,news[t]?=some v->w.drew.cell? (A.add t)=some v):=by
  by_cases h:c=k+1
  ·refine⟨⟨b,0,none⟩,by simp[h],λt v hv=>?_⟩;have h0:news.length=0:=by rw[hnl];omega
   rw[List.length_eq_zero_iff.1 h0]at hv;simp at hv
  ·refine⟨⟨b,(k+1)*2,none⟩,by simp[h],λt v hv=>?_⟩;have ht:t<news.length:=(List.getElem?_eq_some_iff.1 hv).1;rw[Addr.add_lit,hcell w.drew hg _ (by rw[hcs];omega)];rw[hnews,<-tL hz l (k+1) (by omega),List.getElem?_drop,<-htk,List.getElem?_take]at hv;split at hv
   ·simpa using hv
   ·cases hv
 have s2:∀v∈news,v.oneCell'=true:=by rw[hnews];exact rb _
 have s3:∀t,t<news.length->(w.drew.cell? ⟨b,0+k*2+t,none⟩).isSome=true/\w.drew.frozen? ⟨b,0+k*2+t,none⟩=false:=λt ht=>by
  rw[hnl]at ht;have hlt:k*2+t<cur.size:=by rw[hcs];omega
  have hg':w.drew.heap[b]?=some (.cells cur 130 (0,0)):=hg;refine⟨by rw[Qo,hcell w.drew hg _ hlt,Array.getElem?_eq_getElem hlt];rfl,by simp[World.frozen?,hg']⟩
 have hct:cur.toList.length=c*2:=by rw[PZ,hcs]
 obtain⟨cur1,hh1,hl1⟩:=V2 b 130 news (0+k*2) w.drew cur hg (by rw[hcs,hnl];omega);obtain⟨W1,hW1⟩:∃W1,W1=w.drew.setCells b (0+k*2) news:=⟨_,rfl⟩;rw[<-hW1]at hh1;have hc1:cur1.size=c*2:=by
  have:=congrArg List.length hl1;rw[dz (by rw[hct,hnl];omega),PZ,hct]at this;exact this
 have hze:zv.cells= #[.int .u64 0,.int .i64 0]:=Array.toList_inj.1 hzc;obtain⟨zs,hzs⟩:∃zs:List Value,zs=[.int .u64 0,.int .i64 0]:=⟨_,rfl⟩;have hzz:(Builtin.zeroCells zv.cells 1).toList=zs:=by rw[hze,hzs];kernel_rfl
 have hzs2:zs.length=2:=by rw[hzs];rfl
 have hzo:∀v∈zs,v.oneCell'=true:=λv hv=>by
  rw[hzs]at hv;rcases List.mem_cons.1 hv with rfl|hv
  ·rfl
  ·rw[List.mem_singleton.1 hv];rfl
 have hclr:∀ty cc,(Builtin.clear_ #[127] ty #[.slice (some ⟨b,(n-1)*2,none⟩) 1 cc]).run Tryz.prog W1= .ok (.tuple #[]) (W1.setCells b ((n-1)*2) zs):=λty cc=>by
  have hzrun:(zeroValue 130).run Tryz.prog W1= .ok zv W1:=by simp[zeroValue,typeInfo,hinf,hzv]
  have hst:=run_storeCells_cells (P:=Tryz.prog) b ((n-1)*2) zs 0 W1 (λj hj=>by
   rw[hzs2]at hj;have hlt:(n-1)*2+0+j<cur1.size:=by rw[hc1];omega
   simp only[World.cell?,hh1];rw[Array.getElem?_eq_getElem hlt];rfl) (λj hj=>by simp[World.frozen?,hh1]) hzo
  simp only[RT]at hst;have hst':(storeCells ⟨b,(n-1)*2,none⟩ zs).run Tryz.prog W1= .ok () (W1.setCells b ((n-1)*2) zs):=hst;simp[Builtin.clear_,run_underlying Tryz.underlying127,hzrun,hzz,hst']
 have hct1:cur1.toList.length=c*2:=by rw[PZ,hc1]
 obtain⟨cur2,hh2,hl2⟩:=V2 b 130 zs ((n-1)*2) W1 cur1 hh1 (by rw[hc1,hzs2];omega);have hc2:cur2.size=c*2:=by
  have:=congrArg List.length hl2;rw[dz (by rw[hct1,hzs2];omega),PZ,hct1]at this;exact this
 have hfin:cur2.toList.take ((n-1)*2)=XA (l.eraseIdx k):=by
  rw[hl2,tM (by rw[hct1,hzs2];omega) _ (PW _),hl1,Qo,xy (by rw[hct,hnl];omega) _ (by rw[hnl];omega)];have h0:(n-1)*2-(k*2+news.length)=0:=by rw[hnl];omega
  rw[h0,Rk,PO,hnews,Rs,iV,<-tK hz l k (by omega),<-htk,Se];congr 2;omega
 have hpost:tN w (.slice (some ⟨b,0,none⟩) n c) (l.eraseIdx k) (.returned (.slice (some ⟨b,0,none⟩) (n-1) c)) (W1.setCells b ((n-1)*2) zs):=by
  have hel:(l.eraseIdx k).length=n-1:=by rw[List.length_eraseIdx];simp[hn▸hk,hn]
  refine⟨_,rfl,?_,rfl,rfl,?_⟩
  ·rw[hel];exact⟨by rw[X4 hz,hel],.inr ⟨b,c,cur2,rfl,QE _,hh2,by omega,hcm,hc2,hfin⟩⟩
  ·have g1:w.drew.grownBy W1 (some b):=by rw[hW1];exact P0 b _ news w.drew
   have g2:=P0 b ((n-1)*2) zs W1;exact⟨g2.os.trans g1.os,g2.tape.trans g1.tape,g2.output.trans g1.output,Qt g1.size g2.size,λj hj hne=>(g2.block j (Qi hj g1.size) hne).trans (g1.block j hj hne)⟩
 have Hp:=Lib.hid hpost;have Hc:=Lib.hid hclr;have hsrc':=Lib.hid hsrc;have s2':=Lib.hid s2;have s3':=Lib.hid s3;have hW:=Lib.hid hW1;have hnl':=Lib.hid hnl;clear hpost hfin hc2 hl2 hh2 hzo hzs2 hzs hzz hze hc1 hct hct1 hl1 hh1 hW1 s2 s3 hsrc hcell hnl hnews hL htk hcs hg hclr hn;have mixed:Tryz.prog.follows Departure.mixedOrders=true:=by kernel_rfl
 have e1:¬((k:Int)=(k:Int)+1):=by omega
 have e2:((k:Int)+1).toNat=k+1:=by omega
 have e3:(k:Int)<=(k:Int)+1:=by omega
 have e4:(k:Int)+1<=(n:Int):=by omega
 have e5:(n:Int)<=(c:Int):=by omega
 have e6:(0:Int)<=(k:Int)+1:=by omega
 have e7:k+(n-(k+1))=n-1:=by omega
 have e8:k<=c:=by omega
 have e9:k+1<=c:=by omega
 have e10:((n:Nat):Int).toNat=n:=by omega
 have e11:k+1<=n:=by omega
 have e12:n-(n-1)=1:=by omega
 go_enter Tryz.func59,Tryz.ntmps59
 go_wp2_with fail
 go_region_law_o (refine step_append_room rfl (.tmp 22) (.tmp 25) 127 rfl 130 inf 2 Tryz.underlying127 hinf hs' b 0 k c (by simp[Act.eval,Act.put]) A (n-(k+1)) (c-(k+1)) news (by simp[Act.eval,Act.put]) hnl'.out hsrc'.out s2'.out (by omega) s3'.out ?_;rw[<-hW.out])
 go_wp2_with (simp only[Hc.out,Result.andThen_ok])
 go_ret
 exact Hp.out
def uP:U:=.pr (.int .u64) (.int .i64)
def uX:U:=.pr .str (.sl uP)
abbrev PlD:Type:=Int×Int
abbrev IxD:Type:=List (List UInt8×List PlD)
def dJ(k:List UInt8):Value:=.string ⟨k.toArray⟩
def Nj(c:List UInt8×List PlD):List DV:=uX.enc c
def Ik(c:PlD):List DV:=uP.enc c
def XP(l:List PlD):List Value:=XA (u:=uP) l
def IxL(w:World):IxD->List MapEntry->List Nat->Prop
 |[],ms,xs=>ms=[]/\xs=[]
 |c::cs,ms,xs=>∃m r x y,ms=m::r/\xs=x::y/\m.key=dJ c.1/\obk m.val=some x/\w.ownsRow 0 130 2 m.val c.2.length (XP c.2)/\IxL w cs r y
theorem IxL.of{w:World}:∀{l:IxD}{ms:List MapEntry}{xs:List Nat},SEs w 130 (l.map Nj) ms xs->IxL w l ms xs
 |[],_,_,h=>h
 |c::l,ms,xs,h=>by
  simp only[PQ,SEs]at h;obtain⟨m,r,x,y,k,ps,vs,rfl,rfl,e,h1,h2,h3,h4,h5,h6⟩:=h;have e':[DV.v (.string ⟨c.1.toArray⟩),DV.sl (c.2.map Ik)]=[DV.v (.string k),DV.sl ps]:=e;injection e' with e1 e2;injection e1 with e1;injection e2 with e2 _;injection e2 with e2;subst e2;have hx:=Hl (u:=uP) rfl h5;subst hx;refine⟨m,r,x,y,rfl,rfl,h1.trans e1.symm,h2,?_,IxL.of h6⟩;rw[PR]at h3;exact h3
theorem IxL.to{w:World}:∀{l:IxD}{ms:List MapEntry}{xs:List Nat},IxL w l ms xs->SEs w 130 (l.map Nj) ms xs
 |[],_,_,h=>h
 |c::l,ms,xs,h=>by
  simp only[IxL]at h;obtain⟨m,r,x,y,rfl,rfl,h1,h2,h3,h4⟩:=h;simp only[PQ,SEs];refine⟨m,r,x,y,⟨c.1.toArray⟩,c.2.map Ik,XP c.2,rfl,rfl,rfl,h1,h2,?_,λp hp=>?_,DO (u:=uP) rfl _,h4.to⟩
  ·rw[PR];exact h3
  ·obtain⟨a,_,rfl⟩:=List.mem_map.1 hp;rfl
theorem dK{w w':World}{tp sz:Nat}{v:Value}{n:Nat}{xs:List Value}(h:w.ownsRow 0 tp sz v n xs) (hb:∀b,obk v=some b->w'.heap[b]?=w.heap[b]?):w'.ownsRow 0 tp sz v n xs:=by
 refine⟨h.1,?_⟩;rcases h.2 with h1|⟨g,cap,cur,hv,h2,hg,h3⟩
 ·exact .inl h1
 ·exact .inr ⟨g,cap,cur,hv,h2,(hb g (by rw[hv];rfl)).trans hg,h3⟩
theorem IxL.get{w:World}:∀{l:IxD}{ms:List MapEntry}{xs:List Nat},IxL w l ms xs->∀{i:Nat}(h:i<l.length),∃m x,ms[i]?=some m/\xs[i]?=some x/\m.key=dJ l[i].1/\obk m.val=some x/\w.ownsRow 0 130 2 m.val l[i].2.length (XP l[i].2)
 |[],_,_,_,i,h=>by simp at h
 |c::l,ms,xs,h,i,hi=>by
  simp only[IxL]at h;obtain⟨m,r,x,y,rfl,rfl,h1,h2,h3,h4⟩:=h;cases i with
  |zero=>exact⟨m,x,rfl,rfl,h1,h2,h3⟩
  |succ i=>exact h4.get (by simpa using hi)
theorem IxL.len{w:World}:∀{l:IxD}{ms:List MapEntry}{xs:List Nat},IxL w l ms xs->ms.length=l.length/\xs.length=l.length
 |[],_,_,h=>by simp only[IxL]at h;simp[h.1,h.2]
 |c::l,ms,xs,h=>by
  simp only[IxL]at h;obtain⟨m,r,x,y,rfl,rfl,h1,h2,h3,h4⟩:=h;simp[h4.len.1,h4.len.2]
theorem IxL.set{w w':World}{c:List UInt8×List PlD}{m:MapEntry}{x:Nat}(k1:m.key=dJ c.1) (k2:obk m.val=some x) (k3:w'.ownsRow 0 130 2 m.val c.2.length (XP c.2)) :
  ∀{l:IxD} {ms:List MapEntry} {xs:List Nat} (i:Nat),IxL w l ms xs->(∀j b,j≠i->xs[j]?=some b->w'.heap[b]?=w.heap[b]?)->IxL w' (l.set i c) (ms.set i m) (xs.set i x)
 |[],ms,xs,i,h,_=>by simp only[IxL]at h;rw[h.1,h.2];simp[IxL]
 |d::l,ms,xs,i,h,hk=>by
  simp only[IxL]at h;obtain⟨m0,r,x0,y,rfl,rfl,h1,h2,h3,h4⟩:=h;cases i with
  |zero=>
   simp only[Rx,IxL];refine⟨m,r,x,y,rfl,rfl,k1,k2,k3,?_⟩;have:=IxL.set (w':=w') k1 k2 k3 l.length h4 (λj b hj hb=>hk (j+1) b (by simp) (by simpa using hb));rw[Sj (PW _),Sj (by rw[h4.len.1];exact PW _),Sj (by rw[h4.len.2];exact PW _)]at this;exact this
  |succ i=>
   simp only[Ry,IxL];exact⟨m0,r.set i m,x0,y.set i x,rfl,rfl,h1,h2,dK h3 (λb hb=>hk 0 b (by simp) (by rw[h2]at hb;injection hb with hb;subst hb;rfl)),IxL.set k1 k2 k3 i h4 (λj b hj hb=>hk (j+1) b (by omega) (by simpa using hb))⟩
theorem IxL.same{w w':World}{l:IxD}{ms:List MapEntry}{xs:List Nat}(h:IxL w l ms xs) (hk:∀b∈xs,w'.heap[b]?=w.heap[b]?):IxL w' l ms xs:=by
 induction l generalizing ms xs with
 |nil=>exact h
 |cons c l ih=>
  simp only[IxL]at h⊢;obtain⟨m,r,x,y,rfl,rfl,h1,h2,h3,h4⟩:=h;exact⟨m,r,x,y,rfl,rfl,h1,h2,dK h3 (λb hb=>hk b (by rw[h2]at hb;injection hb with hb;subst hb;simp)),ih h4 (λb hb=>hk b (by simp[hb]))⟩
theorem IxL.app{w:World}{c:List UInt8×List PlD}{m:MapEntry}{x:Nat}(k1:m.key=dJ c.1) (k2:obk m.val=some x) (k3:w.ownsRow 0 130 2 m.val c.2.length (XP c.2)):∀{l:IxD}{ms:List MapEntry}{xs:List Nat},IxL w l ms xs->IxL w (l++[c]) (ms++[m]) (xs++[x])
 |[],ms,xs,h=>by simp only[IxL]at h;rw[h.1,h.2];exact⟨m,[],x,[],rfl,rfl,k1,k2,k3,rfl,rfl⟩
 |d::l,ms,xs,h=>by
  simp only[IxL]at h;obtain⟨m0,r,x0,y,rfl,rfl,h1,h2,h3,h4⟩:=h;simp only[Qu,IxL];exact⟨m0,r++[m],x0,y++[x],rfl,rfl,h1,h2,h3,h4.app k1 k2 k3⟩
theorem IxL.erase{w:World}:∀{l:IxD}{ms:List MapEntry}{xs:List Nat}(i:Nat),IxL w l ms xs->IxL w (l.eraseIdx i) (ms.eraseIdx i) (xs.eraseIdx i)
 |[],ms,xs,i,h=>by simp only[IxL]at h;rw[h.1,h.2];simp[IxL]
 |d::l,ms,xs,i,h=>by
  simp only[IxL]at h;obtain⟨m0,r,x0,y,rfl,rfl,h1,h2,h3,h4⟩:=h;cases i with
  |zero=>simpa using h4
  |succ i=>
   simp only[List.eraseIdx_cons_succ,IxL];exact⟨m0,r.eraseIdx i,x0,y.eraseIdx i,rfl,rfl,h1,h2,h3,h4.erase i⟩
def ixE(ms:List MapEntry):List (List DV):=ms.map λm=>[.v m.key,.v m.val]
theorem vW{I:Nat->Nat->Prop}{w:World}:∀{ms:List MapEntry},(∀m∈ms,m.key.oneCell'=true/\m.val.oneCell'=true)->MEs I w (mE false) (ixE ms) ms
 |[],_=>rfl
 |m::ms,h=>by
  obtain⟨h1,h2⟩:=h m (by simp);simp only[ixE,PQ,MEs];exact⟨m,ms,rfl,⟨⟨.v m.key,rfl,by simp only[DVr];exact⟨trivial,h1⟩⟩,⟨.v m.val,rfl,by simp only[DVr];exact⟨trivial,h2⟩⟩⟩,vW λx hx=>h x (by simp[hx])⟩
theorem MEs.eqE{I:Nat->Nat->Prop}{w:World}:∀{es:List (List DV)}{ms:List MapEntry},(∀e∈es,∃a b,e=[.v a,.v b])->MEs I w (mE false) es ms->es=ixE ms
 |[],ms,_,h=>by simp only[MEs]at h;rw[h];rfl
 |e::es,ms,ha,h=>by
  simp only[MEs]at h;obtain⟨m,r,rfl,⟨⟨d,h1,h2⟩,⟨d',h3,h4⟩⟩,h5⟩:=h;obtain⟨a,b,rfl⟩:=ha e (by simp);have e1:[DV.v a]=[d]:=h1;have e2:[DV.v b]=[d']:=h3;injection e1 with e1 _;injection e2 with e2 _;subst e1;subst e2;simp only[DVr]at h2 h4;rw[MEs.eqE (λx hx=>ha x (by simp[hx])) h5,<-h2.1,<-h4.1];rfl
theorem IxL.ones{w:World}:∀{l:IxD}{ms:List MapEntry}{xs:List Nat},IxL w l ms xs->∀m∈ms,m.key.oneCell'=true/\m.val.oneCell'=true
 |[],_,_,h,m,hm=>by simp only[IxL]at h;rw[h.1]at hm;cases hm
 |c::l,ms,xs,h,m,hm=>by
  simp only[IxL]at h;obtain⟨m0,r,x,y,rfl,rfl,h1,h2,h3,h4⟩:=h;rcases List.mem_cons.1 hm with rfl|hm
  ·refine⟨by rw[h1];rfl,?_⟩;rcases h3.2 with⟨hv,_⟩|⟨g,cap,cur,hv,_⟩ <;> rw[hv] <;> rfl
  ·exact h4.ones m hm
theorem IxL.idx{w:World}(k:List UInt8):∀{l:IxD}{ms:List MapEntry}{xs:List Nat},IxL w l ms xs->dv (dJ k) (ixE ms)=aG C0 k l
 |[],_,_,h=>by simp only[IxL]at h;rw[h.1];rfl
 |c::l,ms,xs,h=>by
  simp only[IxL]at h;obtain⟨m0,r,x,y,rfl,rfl,h1,h2,h3,h4⟩:=h;show(if V0 (dJ k) m0.key then some 0 else(dv (dJ k) (ixE r)).map (· + 1))=if C0 k c.1 then some 0 else(aG C0 k l).map (· + 1)
  have e:V0 (dJ k) m0.key=C0 k c.1:=by rw[h1];exact lI (K:=.str) (a:=k) (b:=c.1) rfl rfl
  rw[e,h4.idx k]
theorem IxL.keys{w:World}:∀{l:IxD}{ms:List MapEntry}{xs:List Nat},IxL w l ms xs->eQ .str (ixE ms)
 |[],_,_,h=>by simp only[IxL]at h;rw[h.1];intro c hc;cases hc
 |c::l,ms,xs,h=>by
  simp only[IxL]at h;obtain⟨m0,r,x,y,rfl,rfl,h1,h2,h3,h4⟩:=h;intro e he;rcases List.mem_cons.1 he with rfl|he
  ·exact⟨m0.key,[.v m0.val],rfl,by rw[h1];trivial⟩
  ·exact h4.keys e he
end Go.Proofs.YthkhcbphbabefaaGreat.Am
namespace Go.Proofs.YthkhcbphbabefaaGreat.Am.Ff
open Go
noncomputable section
variable [Fu]
def Q8:U:=(.pr (.int .u64) .bool)
abbrev D5:Type:=Int×Bool
def aK:D5:=((0:Int),false)
def o5:U:=(.pr (.int .i64) (.int .i64))
abbrev o4:Type:=Int×Int
def O1:o4:=((0:Int),(0:Int))
def U_sender_place:U:=(.pr (.int .u64) (.int .i64))
abbrev o9:Type:=Int×Int
def d_sender_place:o9:=((0:Int),(0:Int))
def C3:U:=(.pr (.sl (.int .i64)) (.int .i64))
abbrev A7:Type:=List Int×Int
def B0:U:=(.pr (.int .i64) (.pr (.int .u64) (.int .i64)))
abbrev A0:Type:=Int×o9
def B6:A0:=((0:Int),(0:Int),(0:Int))
def bz:U:=(.pr .str (.pr (.pr (.int .u64) .bool) (.pr (.pr (.int .u64) .bool) (.pr (.int .u64) .bool))))
abbrev H4:Type:=List UInt8×D5×D5×D5
def Q6:H4:=([],aK,aK,(0:Int),false)
def A9:U:=(.pr (.arr 32 .byte) (.pr (.sl .byte) (.pr .str (.pr (.int .u64) (.pr (.int .u64) (.pr (.int .u64) (.pr (.int .i64) (.pr (.int .i64) (.pr (.int .i64) (.sl (.int .i64)))))))))))
abbrev o8:Type:=Vector UInt8 32×List UInt8×List UInt8×Int×Int×Int×Int×Int×Int×List Int
def Q9:o8:=((Vector.replicate 32 (0:UInt8)),[],[],(0:Int),(0:Int),(0:Int),(0:Int),(0:Int),(0:Int),[])
def A8:U:=(.pr (.int .i64) (.pr (.int .i64) (.pr (.int .i64) (.pr (.int .i64) (.pr (.int .i64) (.pr (.int .i64) (.pr .bool (.pr (.int .i64) (.pr (.int .i64) (.pr (.int .u64) (.pr (.int .i64) (.int .i64))))))))))))
abbrev A4:Type:=Int×Int×Int×Int×Int×Int×Bool×Int×Int×Int×o4
def B3:U:=(.pr (.pr (.arr 32 .byte) (.pr (.sl .byte) (.pr .str (.pr (.int .u64) (.pr (.int .u64) (.pr (.int .u64) (.pr (.int .i64) (.pr (.int .i64) (.pr (.int .i64) (.sl (.int .i64))))))))))) (.pr (.int .i64) (.pr .bool (.int .i64))))
abbrev A1:Type:=o8×Int×Bool×Int
def A5:A1:=(Q9,(0:Int),false,(0:Int))
def F_cmp_isNaN_uint64(a0:Int):Option (Bool):=
 some (!decide (a0=a0))
def F_cmp_Compare_uint64(a0 a1:Int):Option (Int):=
 (F_cmp_isNaN_uint64 a0).bind λr1=>
 (F_cmp_isNaN_uint64 a1).bind λr2=>
 sel r1 (
  sel r2 (
   some 0) (
   some (-1))) (
  sel r2 (
   some 1) (
   sel (decide (a0<a1)) (
    some (-1)) (
    sel (decide (a1<a0)) (
     some 1) (
     some 0))))
def F_sender_find_1(a0:o9) (a1:Int):Option (Int):=
 (F_cmp_Compare_uint64 a0.1 a1).bind λr1=>
 some r1
def F_slices_BinarySearchFunc_sender_place_sender_place_uint64_of_sender_find_1_c1(v0:List o9) (v1 v8 v9:Int):Option (Int×Bool):=
 sel (decide (v9<v8)) (
  chk (decide ((0:Int)<=v9/\v9<(((List.length v0):Nat):Int))) <|
  (F_sender_find_1 (List.getD v0 (Int.toNat v9) d_sender_place) v1).bind λr1=>
  some (v9,(decide (r1=0)))) (
  some (v9,false))
def F_slices_BinarySearchFunc_sender_place_sender_place_uint64_of_sender_find_1_l2(v0:List o9) (v1 v8 v9 v10:Int):Option ((List o9×Int×Int×Int×Int)⊕(Int×Bool)):=
 sel (decide (v9<v10)) (
  chk (decide ((0:Int)<=(D1 ((dX (D1 (v9+v10))) / 2^1))/\(D1 ((dX (D1 (v9+v10))) / 2^1))<(((List.length v0):Nat):Int))) <|
  (F_sender_find_1 (List.getD v0 (Int.toNat (D1 ((dX (D1 (v9+v10))) / 2^1))) d_sender_place) v1).bind λr2=>
  sel (decide (r2<0)) (
   some (.inl (v0,v1,v8,(D1 ((D1 ((dX (D1 (v9+v10))) / 2^1))+1)),v10))) (
   some (.inl (v0,v1,v8,v9,(D1 ((dX (D1 (v9+v10))) / 2^1)))))) (
  Option.map .inr (
   F_slices_BinarySearchFunc_sender_place_sender_place_uint64_of_sender_find_1_c1 v0 v1 v8 v9))
def F_slices_BinarySearchFunc_sender_place_sender_place_uint64_of_sender_find_1_l2s(v0:List o9) (v1 v8 v9 v10:Int):=
 aH (λv=>F_slices_BinarySearchFunc_sender_place_sender_place_uint64_of_sender_find_1_l2 v.1 v.2.1 v.2.2.1 v.2.2.2.1 v.2.2.2.2) (v0,v1,v8,v9,v10)
def F_slices_BinarySearchFunc_sender_place_sender_place_uint64_of_sender_find_1(a0:List o9) (a1:Int):Option (Int×Bool):=
 F_slices_BinarySearchFunc_sender_place_sender_place_uint64_of_sender_find_1_l2s a0 a1 (((List.length a0):Nat):Int) 0 (((List.length a0):Nat):Int)
def F_sender_find(a0:List o9) (a1:Int):Option (Int×Bool):=
 (F_slices_BinarySearchFunc_sender_place_sender_place_uint64_of_sender_find_1 a0 a1).bind λr1=>
 some (r1.1,r1.2)
end
end Go.Proofs.YthkhcbphbabefaaGreat.Am.Ff
namespace Go.Proofs.YthkhcbphbabefaaGreat.Am.Ff
open Go
set_option maxRecDepth 100000
theorem gR:FnT Tryz.prog 92 (mkF [ad u_6] .nil [ad .bool] F_cmp_isNaN_uint64):=fnW TU K7 [] Tryz.func92 (.leaf)
theorem fo:FnT Tryz.prog 68 (mkF [ad u_6,ad u_6] .nil [ad i_6] F_cmp_Compare_uint64):=fnW TU K7 [pf gR] Tryz.func68 (.leaf)
theorem kr:FnT Tryz.prog 81 (mkF [ag U_sender_place,ad u_6] .nil [ad i_6] F_sender_find_1):=fnW TU K7 [pf fo] Tryz.func81 (.leaf)
theorem E7:FnT Tryz.prog 80 (mkF [ad (.sl U_sender_place),ad u_6,.c (.fn 81)] .nil [ad i_6,ad .bool] F_slices_BinarySearchFunc_sender_place_sender_place_uint64_of_sender_find_1):=fnW TU K7 [pf kr] Tryz.func80 (.tk 3 (.cq ⟨49,[zd 0 (.sl U_sender_place),zd 1 u_6,(2,.one (.fn 81)),zi 8,zi 9],[],[]⟩ F_slices_BinarySearchFunc_sender_place_sender_place_uint64_of_sender_find_1_c1 (.one (.lq ⟨49,[zd 0 (.sl U_sender_place),zd 1 u_6,(2,.one (.fn 81)),zi 8,zi 9,zi 10],[],[]⟩ F_slices_BinarySearchFunc_sender_place_sender_place_uint64_of_sender_find_1_l2 .leaf)) .leaf))
theorem ok_sender_find:FnT Tryz.prog 56 (mkF [ad (.sl U_sender_place),ad u_6] .nil [ad i_6,ad .bool] F_sender_find):=fnW TU K7 [pf E7] Tryz.func56 (.leaf)
end Go.Proofs.YthkhcbphbabefaaGreat.Am.Ff
namespace Go.Proofs.YthkhcbphbabefaaGreat.Am
open Go Go.Proofs Go.RowKit Go.MapKept
theorem IxL.congr{w:World}:∀{l:IxD}{ms ms':List MapEntry}{xs:List Nat},ixE ms=ixE ms'->IxL w l ms xs->IxL w l ms' xs
 |[],ms,ms',xs,e,h=>by
  simp only[IxL]at h⊢;rw[h.1]at e;exact⟨List.map_eq_nil_iff.1 e.symm,h.2⟩
 |c::l,ms,ms',xs,e,h=>by
  simp only[IxL]at h⊢;obtain⟨m,r,x,y,rfl,rfl,h1,h2,h3,h4⟩:=h;cases ms' with
  |nil=>cases e
  |cons m' r'=>
   simp only[ixE,PQ]at e;injection e with e1 e2;injection e1 with e3 e4;injection e3 with e3;injection e4 with e4 _;injection e4 with e4;exact⟨m',r',x,y,rfl,rfl,e3▸h1,e4▸h2,e4▸h3,IxL.congr e2 h4⟩
theorem AI(k:List UInt8):KK ti9.k (dJ k):=trivial
def ixX(k:List UInt8) (x:Nat) (l:IxD) (xs:List Nat):List Nat:=match aG C0 k l with
 |some i=>xs.set i x
 |none=>xs++[x]
def ixY(k:List UInt8) (l:IxD) (xs:List Nat):List Nat:=match aG C0 k l with
 |some i=>xs.eraseIdx i
 |none=>xs
set_option maxRecDepth 100000
section
variable {w:World}{g cl:Nat}{en:Array MapEntry}{l:IxD}{xs:List Nat}(k:List UInt8)
theorem jz(_hh:w.heap[g]?=some (.map en cl)) (hl:IxL w l en.toList xs) :
  ∃v,(∀W:World,W.heap[g]?=some (.map en cl)->(Instr.lookup 115 (.map (some g)) (dJ k) false).run Tryz.prog W= .ok v W)/\w.ownsRow 0 130 2 v (Q5 C0 k [] l).length (XP (Q5 C0 k [] l))/\∀b,obk v=some b->∃i,aG C0 k l=some i/\xs[i]?=some b:=by
 obtain⟨f1,f2,f3,f4,f5⟩:=iu false;obtain⟨d,hd,hkd,hdd,hKd⟩:=(AI k).isKey Lz;have hf:=λW:World=>ee f1 f2 hdd hkd hKd 0 (vW (I:=λ_ _=>False) (w:=W) hl.ones) hl.keys
 replace hf:=hf w
 rw[hl.idx k]at hf;cases hi:aG C0 k l with
 |none=>
  rw[hi]at hf;obtain⟨inf,z,q1,_,_,q4,q5,_,q7⟩:=AB.info;have hz:∀W:World,(zeroValue 127).run Tryz.prog W= .ok z W:=λW=>by simp[zeroValue,typeInfo,q1,q4]
  have hz0:z= .slice none 0 0:=by
   have ha:=AB.agg inf z q1 q4;have hc:z.cells.toList=[z]:=by cases z <;> first | rfl | (simp[ng]at ha;exact absurd ha (by decide))
   rw[hc]at q5;have q5:[z]=[Value.slice none 0 0]:=q5;injection q5
  subst hz0;refine⟨.slice none 0 0,λW hW=>by simp[Instr.lookup,run_underlying Tryz.underlying115,MapKept.run_getObj_map hW,run_checkKey hd hkd,run_findKey hd hf],?_,?_⟩
  ·have:Q5 C0 k [] l=[]:=by unfold Q5;rw[hi];rfl
   rw[this];exact World.ownsRow_nil w 0 _ _
  ·intro b hb;cases hb
 |some i=>
  rw[hi]at hf;have hil:=lJ hi;obtain⟨m,x,h1,h2,h3,h4,h5⟩:=hl.get hil;have hmd':en.toList.getD i default=m:=by rw[List.getD_eq_getElem?_getD,h1];rfl
  simp only[Qm,hmd']at hf;have hget:Q5 C0 k [] l=l[i].2:=by unfold Q5;rw[hi];simp[List.getElem?_eq_getElem hil]
  refine⟨m.val,λW hW=>by simp[Instr.lookup,run_underlying Tryz.underlying115,MapKept.run_getObj_map hW,run_checkKey hd hkd,run_findKey hd hf],by rw[hget];exact h5,λb hb=>⟨i,rfl,?_⟩⟩;rw[h4]at hb;injection hb with hb;rw[h2,hb]
theorem KH{W:World}(hh:W.heap[g]?=some (.map en cl)) (hb:jm en.toList cl) (hl:IxL w l en.toList xs) (hold:∀j b,aG C0 k l≠some j->xs[j]?=some b->W.heap[b]?=w.heap[b]?){v:Value}{p:List PlD}{x:Nat}(hx:obk v=some x)
  (ho:W.ownsRow 0 130 2 v p.length (XP p)) (hxg:x≠g) (hxs:∀b∈xs,b≠g) :
  ∃en' cl',(Instr.mapUpdate 115 (.map (some g)) (dJ k) v).run Tryz.prog W= .ok () {W with heap:=W.heap.setIfInBounds g (.map en' cl')}/\jm en'.toList cl'/\IxL {W with heap:=W.heap.setIfInBounds g (.map en' cl')} (Z0 C0 k p l) en'.toList (ixX k x l xs):=by
 obtain⟨f1,f2,f3,f4,f5⟩:=iu false;have hme:=vW (I:=λ_ _=>False) (w:=W) hl.ones;have hone:v.oneCell'=true:=by rcases ho.2 with⟨hv,_⟩|⟨g,cap,cur,hv,_⟩ <;> rw[hv] <;> rfl
 obtain⟨en',cl',h1,h2,h3⟩:=yE (k:=TK.str) (kv:=dJ k) (x:=[.v v]) Tryz.underlying115 (show mH Tryz.prog 9 TK.str from jP Lz rfl) hh f1 f2 f3 hme hb (show KL TK.str (dJ k)from trivial) hl.keys ⟨.v v,rfl,by simp only[DVr];exact⟨rfl,hone⟩⟩;have hrk:P4 TK.str (dJ k)=dJ k:=rfl;rw[hrk]at h1;refine⟨en',cl',h1,h3,?_⟩;have hW:∀b,b≠g->({W with heap:=W.heap.setIfInBounds g (.map en' cl')}:World).heap[b]?=W.heap[b]?:=λb hb=>by
  simp only[Array.getElem?_setIfInBounds];rw[Ql (Ne.symm hb)]
 have ho':=dK (w':={W with heap:=W.heap.setIfInBounds g (.map en' cl')}) ho (λb hb=>by rw[hx]at hb;injection hb with hb;subst hb;exact hW _ hxg);unfold jo at h2;rw[hl.idx k]at h2;have hform:∀e∈ixE en.toList,∃a b,e=[DV.v a,DV.v b]:=λe he=>by obtain⟨m,_,rfl⟩:=List.mem_map.1 he;exact⟨_,_,rfl⟩
 cases hi:aG C0 k l with
 |none=>
  rw[hi]at h2;have e:=MEs.eqE (λe he=>by
   rcases List.mem_append.1 he with he|he
   ·exact hform e he
   ·rw[List.mem_singleton.1 he];exact⟨_,_,rfl⟩) h2
  have e':ixE (en.toList++[⟨dJ k,v,0⟩])=ixE en'.toList:=by rw[<-e];unfold ixE;rw[PV];rfl
  unfold Z0 ixX;simp only[hi];refine IxL.congr e' (IxL.app (c:=(k,p)) rfl hx ho' (hl.same λb hb=>?_));obtain⟨j,hj,rfl⟩:=RJ hb;exact(hW _ (hxs _ hb)).trans (hold j _ (by rw[hi];intro h;cases h) (List.getElem?_eq_getElem hj))
 |some i=>
  rw[hi]at h2;have e:=MEs.eqE (λe he=>by
   rcases Rb he with he|rfl
   ·exact hform e he
   ·exact⟨_,_,rfl⟩) h2
  have e':ixE (en.toList.set i ⟨dJ k,v,0⟩)=ixE en'.toList:=by rw[<-e];unfold ixE;rw[List.map_set]
  unfold Z0 ixX;simp only[hi];exact IxL.congr e' (IxL.set (c:=(k,p)) rfl hx ho' i hl λj b hj hb=>(hW b (hxs b (List.mem_of_getElem? hb))).trans (hold j b (by rw[hi];intro h;injection h with h;exact hj h.symm) hb))
theorem KI{W:World}(hh:W.heap[g]?=some (.map en cl)) (hb:jm en.toList cl) (hl:IxL W l en.toList xs) (hxs:∀b∈xs,b≠g) :
  ∃en',(∀ty,(Builtin.delete_ #[115,9] ty #[.map (some g),dJ k]).run Tryz.prog W= .ok (.tuple #[]) {W with heap:=W.heap.setIfInBounds g (.map en' cl)})/\jm en'.toList cl/\IxL {W with heap:=W.heap.setIfInBounds g (.map en' cl)} (kO C0 k l) en'.toList (ixY k l xs):=by
 obtain⟨f1,f2,f3,f4,f5⟩:=iu false;have hme:=vW (I:=λ_ _=>False) (w:=W) hl.ones;obtain⟨d,hd,hkd,hdd,hKd⟩:=(AI k).isKey Lz;have hf:=ee f1 f2 hdd hkd hKd 0 hme hl.keys;rw[hl.idx k]at hf;have hW:∀en':Array MapEntry,∀b,b≠g->({W with heap:=W.heap.setIfInBounds g (.map en' cl)}:World).heap[b]?=W.heap[b]?:=λen' b hb=>by
  simp only[Array.getElem?_setIfInBounds];rw[Ql (Ne.symm hb)]
 have hs:=λen':Array MapEntry=>hl.same (w':={W with heap:=W.heap.setIfInBounds g (.map en' cl)}) (λb hb=>hW en' b (hxs b hb));cases hi:aG C0 k l with
 |none=>
  rw[hi]at hf;refine⟨en,λty=>?_,hb,by unfold kO ixY;simp only[hi];exact hs en⟩;simp[Builtin.delete_,run_underlying Tryz.underlying115,MapKept.run_getObj_map hh,run_checkKey hd hkd,run_findKey hd hf,MapKept.run_setObj_map _ hh]
 |some i=>
  rw[hi]at hf;have hj2:i<en.size:=by rw[<-PZ,hl.len.1];exact lJ hi
  have hle:(en.eraseIdxIfInBounds (0+i)).toList=en.toList.eraseIdx i:=by simp[Array.eraseIdxIfInBounds,hj2]
  refine⟨en.eraseIdxIfInBounds (0+i),λty=>?_,by rw[hle];exact ny hb,by unfold kO ixY;simp only[hi];rw[hle];exact(hs _).erase i⟩;simp[Builtin.delete_,run_underlying Tryz.underlying115,MapKept.run_getObj_map hh,run_checkKey hd hkd,run_findKey hd hf,MapKept.run_setObj_map _ hh]
end
abbrev AJ:TFn:=mkF [ad (.sl Ff.U_sender_place),ad u_6] .nil [ad i_6,ad .bool] Ff.F_sender_find
theorem Hm:FnT Tryz.prog 56 AJ:=Ff.ok_sender_find
theorem fQ{w:World}{I:Nat->Nat->Prop}(hIn:∀b o,I b o->b<w.heap.size) (hgl:nX I w){v:Value}{ps:List PlD}{q:Int}{r:Int×Bool}(how:w.ownsRow 0 130 2 v ps.length (XP ps)) (hr:Ff.F_sender_find ps q=some r) :
  Calls Tryz.prog 56 #[v,.int .u64 q] w λe w'=>e= .returned (.tuple #[.int .i64 r.1,.bool r.2])/\w.grownBy w' none:=by
 have hdv:DVr (λb o=>I b o\/(obk v=some b/\o<2*(ps.length*2)/\o%2=0)) w (.sl (ps.map Ik)) v:=by
  have hd:D2 (λb o=>I b o\/(obk v=some b/\o<2*(ps.length*2)/\o%2=0)) w (ps.map Ik) (XP ps):=DO (u:=uP) rfl ps;have hes:∀e∈ps.map Ik,e.length=2:=λe he=>by obtain⟨a,_,rfl⟩:=List.mem_map.1 he;rfl
  simp only[DVr];rcases how.2 with⟨hv,h0⟩|⟨g,cap,cur,hv,_,hg,h1,h2,_⟩
  ·exact⟨none,0,2,XP ps,by rw[hv,PR,h0],by rw[PR,h0];exact PW _,by simp[maxLen],by decide,hes,λh=>by rw[PR]at h;omega,hd⟩
  ·refine⟨some ⟨g,0,none⟩,cap,2,XP ps,by rw[PR];exact hv,by rw[PR];exact h1,h2,by decide,hes,λ_=>⟨_,rfl,λj x hj=>⟨how.cells (g:=g) (by rw[hv];rfl) j x hj,.inr ⟨by rw[hv];rfl,?_⟩⟩⟩,hd⟩;have:=(List.getElem?_eq_some_iff.1 hj).1;rw[how.1]at this;have h5:j<ps.length*2:=by simpa using this
   show 2*(0+j)<2*(ps.length*2)/\2*(0+j)%2=0;omega
 have hlt:∀b,obk v=some b->b<w.heap.size:=λb hb=>(how.lt b (by rw[<-N7 how];exact hb)).2;have hcall:=Hm.ok.calls w (λb o=>I b o\/(obk v=some b/\o<2*(ps.length*2)/\o%2=0)) [] #[v,.int .u64 q] (AJ.args.oas (ps,q,())) (λb o hb=>by
  rcases hb with hb|⟨hb,_⟩
  ·exact hIn b o hb
  ·exact hlt b hb) (hgl.mono (λ_ _ h=>.inl h) (U9.refl _ _)) (by
  show OAs _ w [.c (.d (.sl (ps.map Ik))),.c (.d (.v (.int .u64 q)))] [v,.int .u64 q] [];simp only[OAs,OAr,OCr,DVr];exact⟨v,[.int .u64 q],[],[],rfl,⟨rfl,by simpa only[DVr]using hdv⟩,⟨.int .u64 q,[],[],[],rfl,⟨rfl,rfl,rfl⟩,⟨rfl,rfl⟩,rfl⟩,rfl⟩) QM ⟨(ps,q,()),r,rfl,hr⟩
 refine Calls.mono hcall λo w' h1=>?_;cases o <;> try exact h1.elim
 case returned v'=>
  obtain⟨I',vs,Fp,Fr',hv',H⟩:=h1;have eres:(AJ.spec.res (AJ.args.oas (ps,q,())))=[.c (.d (.v (.int .i64 r.1))),.c (.d (.v (.bool r.2)))]:=by
   rw[TFn.res_of (S:=AJ) (a:=(ps,q,())) (r:=r) rfl hr];rfl
  have hres:=H.res;rw[eres]at hres;simp only[OAs,OAr,OCr,DVr]at hres;obtain⟨x,q1,F1,F2,rfl,⟨rfl,rfl,_⟩,⟨y,q2,F3,F4,rfl,⟨rfl,rfl,_⟩,⟨rfl,rfl⟩,rfl⟩,rfl⟩:=hres;exact⟨by rw[hv'];rfl,⟨H.fr.os,H.fr.tape,H.fr.output,H.fr.size,λk hk _=>H.fr.block k hk (by simp)⟩⟩
end Go.Proofs.YthkhcbphbabefaaGreat.Am
